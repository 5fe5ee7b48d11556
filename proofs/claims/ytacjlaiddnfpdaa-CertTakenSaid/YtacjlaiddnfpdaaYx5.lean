-- WRITTEN FOR THIS CLAIM by wip/tools/mp.py, a program of this project that drives the kit's print; the functions that the print does not take are this project's own texts.
import Derived.Test.YtacjlaiddnfpdaaYx0
import Derived.Test.YtacjlaiddnfpdaaYx3
import Derived.Test.YtacjlaiddnfpdaaYx4
namespace Go.Proofs.Ytacjlaiddnfpdaa.Y
open Go.RowKit Go.Proofs.YtacjlaiddnfpdaaW.PrintWords Go.Proofs.YtacjlaiddnfpdaaW.PrintLast Go.Proofs.YtacjlaiddnfpdaaW.PrintMore
attribute [local go_sem] max2_int min2_int max_two min_two max_three min_three max_four min_four   -- for this text's walks alone
set_option linter.unusedVariables false
set_option linter.unusedSimpArgs false

/-! ### merkhetref17_Offsets: function 17 -/
mutual
def merkhetref17_Offsets.j0 : Nat → Int → List (S48) → List Int → Bool → Option (Bool)
  | 0, _, _, _, _ => none
  | k + 1, x0, x1, x2, x28 => if x28 = true then (some false) else (merkhetref17_Offsets.l0 k x0 x1 x2 (([] : List Bool)) 0)
def merkhetref17_Offsets.l0 : Nat → Int → List (S48) → List Int → List Bool → Int → Option (Bool)
  | 0, _, _, _, _, _ => none
  | k + 1, x0, x1, x2, x7, x8 => if x8 < x0 then (if 0 ≤ x8 then (if x8 < (x2.length : Int) then (if (rd x2 x8) > 0 then (some false) else (if (rd x2 x8) < (-288230376151711744) then (some false) else (if x7.length < 140737488355328 then (merkhetref17_Offsets.l0 k x0 x1 x2 (x7 ++ [((rd x2 x8) == 0)]) (wrap64 (x8 + 1))) else (none)))) else (none)) else (none)) else (merkhetref17_Offsets.l1 k x0 x1 x2 x7 0)
def merkhetref17_Offsets.l1 : Nat → Int → List (S48) → List Int → List Bool → Int → Option (Bool)
  | 0, _, _, _, _, _ => none
  | k + 1, x0, x1, x2, x7, x9 => if x9 < x0 then (merkhetref17_Offsets.l2 k x0 x1 x2 x7 x9 0) else (merkhetref17_Offsets.l3 k x0 x7 0)
def merkhetref17_Offsets.l2 : Nat → Int → List (S48) → List Int → List Bool → Int → Int → Option (Bool)
  | 0, _, _, _, _, _, _ => none
  | k + 1, x0, x1, x2, x7, x9, x10 => if x10 < (x1.length : Int) then (if 0 ≤ x10 then (if 0 ≤ ((rd_T48 x1 x10).f0) then (if ((rd_T48 x1 x10).f0) < (x7.length : Int) then (if rdOf false x7 ((rd_T48 x1 x10).f0) = true then (if ((rd_T48 x1 x10).f0) < (x2.length : Int) then (if 0 ≤ ((rd_T48 x1 x10).f1) then (if ((rd_T48 x1 x10).f1) < (x2.length : Int) then (if (wrap64 ((rd x2 ((rd_T48 x1 x10).f0)) + ((rd_T48 x1 x10).f2))) = (rd x2 ((rd_T48 x1 x10).f1)) then (if ((rd_T48 x1 x10).f1) < (x7.length : Int) then (merkhetref17_Offsets.l2 k x0 x1 x2 (x7.set (((rd_T48 x1 x10).f1) : Int).toNat true) x9 (wrap64 (x10 + 1))) else (none)) else (merkhetref17_Offsets.l2 k x0 x1 x2 x7 x9 (wrap64 (x10 + 1)))) else (none)) else (none)) else (none)) else (merkhetref17_Offsets.l2 k x0 x1 x2 x7 x9 (wrap64 (x10 + 1)))) else (none)) else (none)) else (none)) else (merkhetref17_Offsets.l1 k x0 x1 x2 x7 (wrap64 (x9 + 1)))
def merkhetref17_Offsets.l3 : Nat → Int → List Bool → Int → Option (Bool)
  | 0, _, _, _ => none
  | k + 1, x0, x7, x12 => if x12 < x0 then (if 0 ≤ x12 then (if x12 < (x7.length : Int) then (if rdOf false x7 x12 = true then (merkhetref17_Offsets.l3 k x0 x7 (wrap64 (x12 + 1))) else (some false)) else (none)) else (none)) else (some true)
end
def merkhetref17_Offsets.f (k : Nat) (a0 : Int) (l1 : List (S48)) (l2 : List Int) : Option (Bool) := (merkhetref15_May.f k a0 l1).bind fun t128 => (if t128 = true then (if (l2.length : Int) = a0 then ((merkhetref14_All.f k l1 l2).bind fun t129 => (merkhetref17_Offsets.j0 k a0 l1 l2 (!t129))) else (merkhetref17_Offsets.j0 k a0 l1 l2 true)) else (merkhetref17_Offsets.j0 k a0 l1 l2 true))
theorem merkhetref17_Offsets.mono_l : ∀ k, (∀ y0 y1 y2 y3, LeO (merkhetref17_Offsets.j0 k y0 y1 y2 y3) (merkhetref17_Offsets.j0 (k + 1) y0 y1 y2 y3)) ∧ (∀ y0 y1 y2 y3 y4, LeO (merkhetref17_Offsets.l0 k y0 y1 y2 y3 y4) (merkhetref17_Offsets.l0 (k + 1) y0 y1 y2 y3 y4)) ∧ (∀ y0 y1 y2 y3 y4, LeO (merkhetref17_Offsets.l1 k y0 y1 y2 y3 y4) (merkhetref17_Offsets.l1 (k + 1) y0 y1 y2 y3 y4)) ∧ (∀ y0 y1 y2 y3 y4 y5, LeO (merkhetref17_Offsets.l2 k y0 y1 y2 y3 y4 y5) (merkhetref17_Offsets.l2 (k + 1) y0 y1 y2 y3 y4 y5)) ∧ (∀ y0 y1 y2, LeO (merkhetref17_Offsets.l3 k y0 y1 y2) (merkhetref17_Offsets.l3 (k + 1) y0 y1 y2))
  | 0 => ⟨fun _ _ _ _ r h => by simp [merkhetref17_Offsets.j0] at h, fun _ _ _ _ _ r h => by simp [merkhetref17_Offsets.l0] at h, fun _ _ _ _ _ r h => by simp [merkhetref17_Offsets.l1] at h, fun _ _ _ _ _ _ r h => by simp [merkhetref17_Offsets.l2] at h, fun _ _ _ r h => by simp [merkhetref17_Offsets.l3] at h⟩
  | k + 1 => by
    obtain ⟨ih0, ih1, ih2, ih3, ih4⟩ := merkhetref17_Offsets.mono_l k
    refine ⟨?_, ?_, ?_, ?_, ?_⟩
    · intro y0 y1 y2 y3
      unfold merkhetref17_Offsets.j0
      repeat' first
      | (with_reducible exact ih0 _ _ _ _)
      | (with_reducible exact ih1 _ _ _ _ _)
      | (with_reducible exact ih2 _ _ _ _ _)
      | (with_reducible exact ih3 _ _ _ _ _ _)
      | (with_reducible exact ih4 _ _ _)
      | (with_reducible exact merkhetref14_All.mono _ _ _)
      | (with_reducible exact merkhetref15_May.mono _ _ _)
      | (with_reducible exact LeO.refl _)
      | (with_reducible exact LeO.none _)
      | (with_reducible refine LeO.ite ?_ ?_)
      | (with_reducible refine LeO.bind ?_ (fun _ => ?_))
      | exact ih0 _ _ _ _
      | exact ih1 _ _ _ _ _
      | exact ih2 _ _ _ _ _
      | exact ih3 _ _ _ _ _ _
      | exact ih4 _ _ _
      | exact merkhetref14_All.mono _ _ _
      | exact merkhetref15_May.mono _ _ _
      | exact LeO.none _
      | refine LeO.ite ?_ ?_
      | refine LeO.bind ?_ (fun _ => ?_)
    · intro y0 y1 y2 y3 y4
      unfold merkhetref17_Offsets.l0
      repeat' first
      | (with_reducible exact ih0 _ _ _ _)
      | (with_reducible exact ih1 _ _ _ _ _)
      | (with_reducible exact ih2 _ _ _ _ _)
      | (with_reducible exact ih3 _ _ _ _ _ _)
      | (with_reducible exact ih4 _ _ _)
      | (with_reducible exact merkhetref14_All.mono _ _ _)
      | (with_reducible exact merkhetref15_May.mono _ _ _)
      | (with_reducible exact LeO.refl _)
      | (with_reducible exact LeO.none _)
      | (with_reducible refine LeO.ite ?_ ?_)
      | (with_reducible refine LeO.bind ?_ (fun _ => ?_))
      | exact ih0 _ _ _ _
      | exact ih1 _ _ _ _ _
      | exact ih2 _ _ _ _ _
      | exact ih3 _ _ _ _ _ _
      | exact ih4 _ _ _
      | exact merkhetref14_All.mono _ _ _
      | exact merkhetref15_May.mono _ _ _
      | exact LeO.none _
      | refine LeO.ite ?_ ?_
      | refine LeO.bind ?_ (fun _ => ?_)
    · intro y0 y1 y2 y3 y4
      unfold merkhetref17_Offsets.l1
      repeat' first
      | (with_reducible exact ih0 _ _ _ _)
      | (with_reducible exact ih1 _ _ _ _ _)
      | (with_reducible exact ih2 _ _ _ _ _)
      | (with_reducible exact ih3 _ _ _ _ _ _)
      | (with_reducible exact ih4 _ _ _)
      | (with_reducible exact merkhetref14_All.mono _ _ _)
      | (with_reducible exact merkhetref15_May.mono _ _ _)
      | (with_reducible exact LeO.refl _)
      | (with_reducible exact LeO.none _)
      | (with_reducible refine LeO.ite ?_ ?_)
      | (with_reducible refine LeO.bind ?_ (fun _ => ?_))
      | exact ih0 _ _ _ _
      | exact ih1 _ _ _ _ _
      | exact ih2 _ _ _ _ _
      | exact ih3 _ _ _ _ _ _
      | exact ih4 _ _ _
      | exact merkhetref14_All.mono _ _ _
      | exact merkhetref15_May.mono _ _ _
      | exact LeO.none _
      | refine LeO.ite ?_ ?_
      | refine LeO.bind ?_ (fun _ => ?_)
    · intro y0 y1 y2 y3 y4 y5
      unfold merkhetref17_Offsets.l2
      repeat' first
      | (with_reducible exact ih0 _ _ _ _)
      | (with_reducible exact ih1 _ _ _ _ _)
      | (with_reducible exact ih2 _ _ _ _ _)
      | (with_reducible exact ih3 _ _ _ _ _ _)
      | (with_reducible exact ih4 _ _ _)
      | (with_reducible exact merkhetref14_All.mono _ _ _)
      | (with_reducible exact merkhetref15_May.mono _ _ _)
      | (with_reducible exact LeO.refl _)
      | (with_reducible exact LeO.none _)
      | (with_reducible refine LeO.ite ?_ ?_)
      | (with_reducible refine LeO.bind ?_ (fun _ => ?_))
      | exact ih0 _ _ _ _
      | exact ih1 _ _ _ _ _
      | exact ih2 _ _ _ _ _
      | exact ih3 _ _ _ _ _ _
      | exact ih4 _ _ _
      | exact merkhetref14_All.mono _ _ _
      | exact merkhetref15_May.mono _ _ _
      | exact LeO.none _
      | refine LeO.ite ?_ ?_
      | refine LeO.bind ?_ (fun _ => ?_)
    · intro y0 y1 y2
      unfold merkhetref17_Offsets.l3
      repeat' first
      | (with_reducible exact ih0 _ _ _ _)
      | (with_reducible exact ih1 _ _ _ _ _)
      | (with_reducible exact ih2 _ _ _ _ _)
      | (with_reducible exact ih3 _ _ _ _ _ _)
      | (with_reducible exact ih4 _ _ _)
      | (with_reducible exact merkhetref14_All.mono _ _ _)
      | (with_reducible exact merkhetref15_May.mono _ _ _)
      | (with_reducible exact LeO.refl _)
      | (with_reducible exact LeO.none _)
      | (with_reducible refine LeO.ite ?_ ?_)
      | (with_reducible refine LeO.bind ?_ (fun _ => ?_))
      | exact ih0 _ _ _ _
      | exact ih1 _ _ _ _ _
      | exact ih2 _ _ _ _ _
      | exact ih3 _ _ _ _ _ _
      | exact ih4 _ _ _
      | exact merkhetref14_All.mono _ _ _
      | exact merkhetref15_May.mono _ _ _
      | exact LeO.none _
      | refine LeO.ite ?_ ?_
      | refine LeO.bind ?_ (fun _ => ?_)
theorem merkhetref17_Offsets.mono : ∀ a0 a1 a2 k, LeO (merkhetref17_Offsets.f k a0 a1 a2) (merkhetref17_Offsets.f (k + 1) a0 a1 a2) := by
  intro a0 a1 a2 k
  obtain ⟨ih0, ih1, ih2, ih3, ih4⟩ := merkhetref17_Offsets.mono_l k
  unfold merkhetref17_Offsets.f
  repeat' first
      | (with_reducible exact ih0 _ _ _ _)
      | (with_reducible exact ih1 _ _ _ _ _)
      | (with_reducible exact ih2 _ _ _ _ _)
      | (with_reducible exact ih3 _ _ _ _ _ _)
      | (with_reducible exact ih4 _ _ _)
      | (with_reducible exact merkhetref14_All.mono _ _ _)
      | (with_reducible exact merkhetref15_May.mono _ _ _)
      | (with_reducible exact LeO.refl _)
      | (with_reducible exact LeO.none _)
      | (with_reducible refine LeO.ite ?_ ?_)
      | (with_reducible refine LeO.bind ?_ (fun _ => ?_))
      | exact ih0 _ _ _ _
      | exact ih1 _ _ _ _ _
      | exact ih2 _ _ _ _ _
      | exact ih3 _ _ _ _ _ _
      | exact ih4 _ _ _
      | exact merkhetref14_All.mono _ _ _
      | exact merkhetref15_May.mono _ _ _
      | exact LeO.none _
      | refine LeO.ite ?_ ?_
      | refine LeO.bind ?_ (fun _ => ?_)
set_option maxHeartbeats 60000000 in
set_option maxRecDepth 100000 in
theorem merkhetref17_Offsets.calls (k : Nat) (a0 : Int) (A1 : Option Addr) (c1 : Nat) (l1 : List (S48)) (A2 : Option Addr) (c2 : Nat) (l2 : List Int) (r : Bool) (w : World) (hr1 : Kd.C k48 w A1 l1.length l1) (hc1 : l1.length ≤ c1) (hr2 : Kd.C (Kd.int .i64) w A2 l2.length l2) (hc2 : l2.length ≤ c2) (h : merkhetref17_Offsets.f k a0 l1 l2 = some r) :
    Calls Try.prog 17 #[.int .i64 a0, .slice A1 l1.length c1, .slice A2 l2.length c2] w fun e w' => e = .returned (.bool r) ∧ Below w.heap.size w w' := by
  have hu48 := Try.underlying48
  have HR1 := Aside0.mk hr1
  have HC1 := Aside0.mk hc1
  clear hr1 hc1
  have HR2 := Aside0.mk hr2
  have HC2 := Aside0.mk hc2
  clear hr2 hc2
  have HB := Aside0.mk (Below.refl w.heap.size w)
  have H : ((merkhetref15_May.f k a0 l1).bind fun t128 => (if t128 = true then (if (l2.length : Int) = a0 then ((merkhetref14_All.f k l1 l2).bind fun t129 => (merkhetref17_Offsets.j0 k a0 l1 l2 (!t129))) else (merkhetref17_Offsets.j0 k a0 l1 l2 true)) else (merkhetref17_Offsets.j0 k a0 l1 l2 true))) = some r := h
  clear h
  have HC4 := Aside0.mk H
  clear H
  go_enter Try.func17, Try.ntmps17
  go_upto_region 1 with (fail)
  repeat (go_quiet (fail); go_upto_region 1 with (fail))
  go_cut [28] (fun v28 wc => ∃ (kq : Nat) (x28_3 : Bool), v28 = .bool x28_3 ∧ Aside0 (merkhetref17_Offsets.j0 kq a0 l1 l2 x28_3 = some r) ∧ Aside0 (kq ≤ k) ∧ Aside0 (Below w.heap.size w wc))
  case first =>
    have H := HC4.out
    clear HC4
    replace H := Option.bind_eq_some_iff.mp H
    obtain ⟨t128, A50, H⟩ := H
    replace H : (if t128 = true then (if (l2.length : Int) = a0 then ((merkhetref14_All.f k l1 l2).bind fun t129 => (merkhetref17_Offsets.j0 k a0 l1 l2 (!t129))) else (merkhetref17_Offsets.j0 k a0 l1 l2 true)) else (merkhetref17_Offsets.j0 k a0 l1 l2 true)) = some r := H
    have A5 := Aside0.mk A50
    clear A50
    by_cases c6 : t128 = true
    · subst c6
      have H1 : (if (l2.length : Int) = a0 then ((merkhetref14_All.f k l1 l2).bind fun t129 => (merkhetref17_Offsets.j0 k a0 l1 l2 (!t129))) else (merkhetref17_Offsets.j0 k a0 l1 l2 true)) = some r := by rw [if_pos rfl] at H; exact H
      clear H
      have H := H1
      clear H1
      by_cases c7 : (l2.length : Int) = a0
      · rw [if_pos c7] at H
        have c7b0 : ((l2.length : Int) == a0) = true := beq_iff_eq.mpr c7
        have c7b1 : ((l2.length : Int) != a0) = false := bne_eq_false_iff_eq.mpr c7
        clear c7
        (first | rw [c7b0] | (simp only [i64_w, i32_w]; rw [c7b0]) | skip)
        replace H := Option.bind_eq_some_iff.mp H
        obtain ⟨t129, A80, H⟩ := H
        replace H : (merkhetref17_Offsets.j0 k a0 l1 l2 (!t129)) = some r := H
        have A8 := Aside0.mk A80
        clear A80
        have H' := Aside0.mk H
        clear H
        go_wp2_with (first | (go_at_call 24; (with_reducible refine (merkhetref15_May.calls k a0 _ _ l1 true _ ?side1 ?side2 A5.out).mono ?_); (case side1 => repeat (first | exact (Kd.C_below HR1.out HB.out) | (with_reducible refine Kd.C_alloc ?_ _) | (with_reducible refine Kd.C_drewN ?_ _) | (with_reducible refine Kd.C_drew ?_))); (case side2 => exact HC1.out); rintro e w9 ⟨rfl, hb⟩; have n0_ := Aside0.mk (below_step (by repeat (first | (with_reducible first | exact HB.out | apply below_alloc | apply pw_below_drewN | apply below_drew1) | exact HB.out)) hb); clear HB; have HB := n0_; clear n0_; (try clear hb); (try clear hb2); (try clear hk); (try clear hi)) | (go_at_call 29; (with_reducible refine (merkhetref14_All.calls k _ _ l1 _ _ l2 t129 _ ?side1 ?side2 ?side3 ?side4 A8.out).mono ?_); (case side1 => repeat (first | exact (Kd.C_below HR1.out HB.out) | (with_reducible refine Kd.C_alloc ?_ _) | (with_reducible refine Kd.C_drewN ?_ _) | (with_reducible refine Kd.C_drew ?_))); (case side2 => exact HC1.out); (case side3 => repeat (first | exact (Kd.C_below HR2.out HB.out) | (with_reducible refine Kd.C_alloc ?_ _) | (with_reducible refine Kd.C_drewN ?_ _) | (with_reducible refine Kd.C_drew ?_))); (case side4 => exact HC2.out); rintro e w10 ⟨rfl, hb⟩; have n0_ := Aside0.mk (below_step (by repeat (first | (with_reducible first | exact HB.out | apply below_alloc | apply pw_below_drewN | apply below_drew1) | exact HB.out)) hb); clear HB; have HB := n0_; clear n0_; (try clear hb); (try clear hb2); (try clear hk); (try clear hi)))
        repeat (go_quiet (first | (go_at_call 24; (with_reducible refine (merkhetref15_May.calls k a0 _ _ l1 true _ ?side1 ?side2 A5.out).mono ?_); (case side1 => repeat (first | exact (Kd.C_below HR1.out HB.out) | (with_reducible refine Kd.C_alloc ?_ _) | (with_reducible refine Kd.C_drewN ?_ _) | (with_reducible refine Kd.C_drew ?_))); (case side2 => exact HC1.out); rintro e w9 ⟨rfl, hb⟩; have n0_ := Aside0.mk (below_step (by repeat (first | (with_reducible first | exact HB.out | apply below_alloc | apply pw_below_drewN | apply below_drew1) | exact HB.out)) hb); clear HB; have HB := n0_; clear n0_; (try clear hb); (try clear hb2); (try clear hk); (try clear hi)) | (go_at_call 29; (with_reducible refine (merkhetref14_All.calls k _ _ l1 _ _ l2 t129 _ ?side1 ?side2 ?side3 ?side4 A8.out).mono ?_); (case side1 => repeat (first | exact (Kd.C_below HR1.out HB.out) | (with_reducible refine Kd.C_alloc ?_ _) | (with_reducible refine Kd.C_drewN ?_ _) | (with_reducible refine Kd.C_drew ?_))); (case side2 => exact HC1.out); (case side3 => repeat (first | exact (Kd.C_below HR2.out HB.out) | (with_reducible refine Kd.C_alloc ?_ _) | (with_reducible refine Kd.C_drewN ?_ _) | (with_reducible refine Kd.C_drew ?_))); (case side4 => exact HC2.out); rintro e w10 ⟨rfl, hb⟩; have n0_ := Aside0.mk (below_step (by repeat (first | (with_reducible first | exact HB.out | apply below_alloc | apply pw_below_drewN | apply below_drew1) | exact HB.out)) hb); clear HB; have HB := n0_; clear n0_; (try clear hb); (try clear hb2); (try clear hk); (try clear hi))); try go_wp2_with (first | (go_at_call 24; (with_reducible refine (merkhetref15_May.calls k a0 _ _ l1 true _ ?side1 ?side2 A5.out).mono ?_); (case side1 => repeat (first | exact (Kd.C_below HR1.out HB.out) | (with_reducible refine Kd.C_alloc ?_ _) | (with_reducible refine Kd.C_drewN ?_ _) | (with_reducible refine Kd.C_drew ?_))); (case side2 => exact HC1.out); rintro e w9 ⟨rfl, hb⟩; have n0_ := Aside0.mk (below_step (by repeat (first | (with_reducible first | exact HB.out | apply below_alloc | apply pw_below_drewN | apply below_drew1) | exact HB.out)) hb); clear HB; have HB := n0_; clear n0_; (try clear hb); (try clear hb2); (try clear hk); (try clear hi)) | (go_at_call 29; (with_reducible refine (merkhetref14_All.calls k _ _ l1 _ _ l2 t129 _ ?side1 ?side2 ?side3 ?side4 A8.out).mono ?_); (case side1 => repeat (first | exact (Kd.C_below HR1.out HB.out) | (with_reducible refine Kd.C_alloc ?_ _) | (with_reducible refine Kd.C_drewN ?_ _) | (with_reducible refine Kd.C_drew ?_))); (case side2 => exact HC1.out); (case side3 => repeat (first | exact (Kd.C_below HR2.out HB.out) | (with_reducible refine Kd.C_alloc ?_ _) | (with_reducible refine Kd.C_drewN ?_ _) | (with_reducible refine Kd.C_drew ?_))); (case side4 => exact HC2.out); rintro e w10 ⟨rfl, hb⟩; have n0_ := Aside0.mk (below_step (by repeat (first | (with_reducible first | exact HB.out | apply below_alloc | apply pw_below_drewN | apply below_drew1) | exact HB.out)) hb); clear HB; have HB := n0_; clear n0_; (try clear hb); (try clear hb2); (try clear hk); (try clear hi))))
        go_meet
        case rel => exact ⟨_, (!t129), (by first | rfl | (simp; done) | (simp [*]; done)), H', ⟨by first | omega | exact Nat.le_refl _⟩, ⟨by repeat (first | (with_reducible first | exact HB.out | apply below_alloc | apply pw_below_drewN | apply below_drew1) | exact HB.out)⟩⟩
      · rw [if_neg c7] at H
        have c7b0 : ((l2.length : Int) == a0) = false := beq_eq_false_iff_ne.mpr c7
        have c7b1 : ((l2.length : Int) != a0) = true := bne_iff_ne.mpr c7
        (first | rw [c7b0] | (simp only [i64_w, i32_w]; rw [c7b0]) | skip)
        have H' := Aside0.mk H
        clear H
        go_wp2_with (first | (go_at_call 24; (with_reducible refine (merkhetref15_May.calls k a0 _ _ l1 true _ ?side1 ?side2 A5.out).mono ?_); (case side1 => repeat (first | exact (Kd.C_below HR1.out HB.out) | (with_reducible refine Kd.C_alloc ?_ _) | (with_reducible refine Kd.C_drewN ?_ _) | (with_reducible refine Kd.C_drew ?_))); (case side2 => exact HC1.out); rintro e w11 ⟨rfl, hb⟩; have n0_ := Aside0.mk (below_step (by repeat (first | (with_reducible first | exact HB.out | apply below_alloc | apply pw_below_drewN | apply below_drew1) | exact HB.out)) hb); clear HB; have HB := n0_; clear n0_; (try clear hb); (try clear hb2); (try clear hk); (try clear hi)))
        repeat (go_quiet (first | (go_at_call 24; (with_reducible refine (merkhetref15_May.calls k a0 _ _ l1 true _ ?side1 ?side2 A5.out).mono ?_); (case side1 => repeat (first | exact (Kd.C_below HR1.out HB.out) | (with_reducible refine Kd.C_alloc ?_ _) | (with_reducible refine Kd.C_drewN ?_ _) | (with_reducible refine Kd.C_drew ?_))); (case side2 => exact HC1.out); rintro e w11 ⟨rfl, hb⟩; have n0_ := Aside0.mk (below_step (by repeat (first | (with_reducible first | exact HB.out | apply below_alloc | apply pw_below_drewN | apply below_drew1) | exact HB.out)) hb); clear HB; have HB := n0_; clear n0_; (try clear hb); (try clear hb2); (try clear hk); (try clear hi))); try go_wp2_with (first | (go_at_call 24; (with_reducible refine (merkhetref15_May.calls k a0 _ _ l1 true _ ?side1 ?side2 A5.out).mono ?_); (case side1 => repeat (first | exact (Kd.C_below HR1.out HB.out) | (with_reducible refine Kd.C_alloc ?_ _) | (with_reducible refine Kd.C_drewN ?_ _) | (with_reducible refine Kd.C_drew ?_))); (case side2 => exact HC1.out); rintro e w11 ⟨rfl, hb⟩; have n0_ := Aside0.mk (below_step (by repeat (first | (with_reducible first | exact HB.out | apply below_alloc | apply pw_below_drewN | apply below_drew1) | exact HB.out)) hb); clear HB; have HB := n0_; clear n0_; (try clear hb); (try clear hb2); (try clear hk); (try clear hi))))
        go_meet
        case rel => exact ⟨_, (true), (by first | rfl | (simp; done) | (simp [*]; done)), H', ⟨by first | omega | exact Nat.le_refl _⟩, ⟨by repeat (first | (with_reducible first | exact HB.out | apply below_alloc | apply pw_below_drewN | apply below_drew1) | exact HB.out)⟩⟩
    · replace c6 := Bool.eq_false_iff.mpr c6
      subst c6
      have H1 : (merkhetref17_Offsets.j0 k a0 l1 l2 true) = some r := by rw [if_neg (show ¬ (false = true) by decide)] at H; exact H
      clear H
      have H := H1
      clear H1
      have H' := Aside0.mk H
      clear H
      go_wp2_with (first | (go_at_call 24; (with_reducible refine (merkhetref15_May.calls k a0 _ _ l1 false _ ?side1 ?side2 A5.out).mono ?_); (case side1 => repeat (first | exact (Kd.C_below HR1.out HB.out) | (with_reducible refine Kd.C_alloc ?_ _) | (with_reducible refine Kd.C_drewN ?_ _) | (with_reducible refine Kd.C_drew ?_))); (case side2 => exact HC1.out); rintro e w12 ⟨rfl, hb⟩; have n0_ := Aside0.mk (below_step (by repeat (first | (with_reducible first | exact HB.out | apply below_alloc | apply pw_below_drewN | apply below_drew1) | exact HB.out)) hb); clear HB; have HB := n0_; clear n0_; (try clear hb); (try clear hb2); (try clear hk); (try clear hi)))
      repeat (go_quiet (first | (go_at_call 24; (with_reducible refine (merkhetref15_May.calls k a0 _ _ l1 false _ ?side1 ?side2 A5.out).mono ?_); (case side1 => repeat (first | exact (Kd.C_below HR1.out HB.out) | (with_reducible refine Kd.C_alloc ?_ _) | (with_reducible refine Kd.C_drewN ?_ _) | (with_reducible refine Kd.C_drew ?_))); (case side2 => exact HC1.out); rintro e w12 ⟨rfl, hb⟩; have n0_ := Aside0.mk (below_step (by repeat (first | (with_reducible first | exact HB.out | apply below_alloc | apply pw_below_drewN | apply below_drew1) | exact HB.out)) hb); clear HB; have HB := n0_; clear n0_; (try clear hb); (try clear hb2); (try clear hk); (try clear hi))); try go_wp2_with (first | (go_at_call 24; (with_reducible refine (merkhetref15_May.calls k a0 _ _ l1 false _ ?side1 ?side2 A5.out).mono ?_); (case side1 => repeat (first | exact (Kd.C_below HR1.out HB.out) | (with_reducible refine Kd.C_alloc ?_ _) | (with_reducible refine Kd.C_drewN ?_ _) | (with_reducible refine Kd.C_drew ?_))); (case side2 => exact HC1.out); rintro e w12 ⟨rfl, hb⟩; have n0_ := Aside0.mk (below_step (by repeat (first | (with_reducible first | exact HB.out | apply below_alloc | apply pw_below_drewN | apply below_drew1) | exact HB.out)) hb); clear HB; have HB := n0_; clear n0_; (try clear hb); (try clear hb2); (try clear hk); (try clear hi))))
      go_meet
      case rel => exact ⟨_, (true), (by first | rfl | (simp; done) | (simp [*]; done)), H', ⟨by first | omega | exact Nat.le_refl _⟩, ⟨by repeat (first | (with_reducible first | exact HB.out | apply below_alloc | apply pw_below_drewN | apply below_drew1) | exact HB.out)⟩⟩
  case rest =>
    clear HC4
    try clear c1
    try clear c2
    try clear p2
    try clear c6
    try clear c7
    try clear c7b0
    try clear c7b1
    obtain ⟨kq, x28_3, rfl, HA, HJ3, HB⟩ := hcut
    cases kq with
    | zero => exact absurd HA.out (by simp [merkhetref17_Offsets.j0])
    | succ kj3 =>
      have H := HA.out
      clear HA
      simp only [merkhetref17_Offsets.j0] at H
      by_cases c13 : x28_3 = true
      · subst c13
        have H1 : (some false) = some r := by rw [if_pos rfl] at H; exact H
        clear H
        have H := H1
        clear H1
        obtain rfl := Option.some.inj H
        go_wp2
        repeat (go_quiet (fail); try go_wp2)
        go_ret
        exact ⟨by first | rfl | (simp [errW_none, errW_some] <;> rfl) | (simp [*, errW_none, errW_some] <;> rfl), by repeat (first | (with_reducible first | exact HB.out | apply below_alloc | apply pw_below_drewN | apply below_drew1) | exact HB.out)⟩
      · replace c13 := Bool.eq_false_iff.mpr c13
        subst c13
        have H1 : (merkhetref17_Offsets.l0 kj3 a0 l1 l2 (([] : List Bool)) 0) = some r := by rw [if_neg (show ¬ (false = true) by decide)] at H; exact H
        clear H
        have H := H1
        clear H1
        obtain ⟨y130, hy130⟩ : ∃ y_ : List Bool, y_ = (([] : List Bool)) := ⟨_, rfl⟩
        replace H : (merkhetref17_Offsets.l0 kj3 a0 l1 l2 y130 0) = some r := by first | (rw [hy130]; with_reducible exact H) | (have H2_ := (Option.bind_some _ _).symm.trans H; rw [hy130]; with_reducible exact H2_) | (have H2_ := (Option.bind_some _ _).symm.trans H; with_reducible exact H2_) | with_reducible exact H | (rw [hy130]; exact H) | exact H
        have Ny130 := Aside0.mk hy130
        clear hy130
        have H' := Aside0.mk H
        clear H
        go_wp2_with (first | ((with_reducible refine gate_dst (N := 29) rfl ?_); (try (refine gate_guard (by rfl) ?_; dsimp only)); refine Kd.R_lit Kd.bool _ 4 ?hg (N := 29) ?hd (xs := ([] : List Bool)) (inner := []) (ok := fun _ => True) (okp := fun _ => True) ?hr ?hp (fun _ hk => hk) trivial (Below.refl _ _) (Nat.le_refl _) (by simp) ?_; (case hd => rfl); (case hg => rfl); (case hr => first | (go_simp; done) | (go_simp; rfl)); (case hp => exact (Reps.none _ _)); intro v131 w14 ho15 hb hg_ hnew_; clear hg_ hnew_; (first | rw [← Ny130.out] at ho15 | (simp only [Int.reduceToNat] at ho15; rw [← Ny130.out] at ho15)); have n0_ := Aside0.mk (Kd.R_lower ho15 (below_size (by repeat (first | (with_reducible first | exact HB.out | apply below_alloc | apply pw_below_drewN | apply below_drew1) | exact HB.out)))); have n1_ := Aside0.mk (below_step (by repeat (first | (with_reducible first | exact HB.out | apply below_alloc | apply pw_below_drewN | apply below_drew1) | exact HB.out)) hb); clear HB; have HO132 := n0_; have HB := n1_; clear n0_ n1_; clear hb ho15))
        repeat (go_quiet (first | ((with_reducible refine gate_dst (N := 29) rfl ?_); (try (refine gate_guard (by rfl) ?_; dsimp only)); refine Kd.R_lit Kd.bool _ 4 ?hg (N := 29) ?hd (xs := ([] : List Bool)) (inner := []) (ok := fun _ => True) (okp := fun _ => True) ?hr ?hp (fun _ hk => hk) trivial (Below.refl _ _) (Nat.le_refl _) (by simp) ?_; (case hd => rfl); (case hg => rfl); (case hr => first | (go_simp; done) | (go_simp; rfl)); (case hp => exact (Reps.none _ _)); intro v131 w14 ho15 hb hg_ hnew_; clear hg_ hnew_; (first | rw [← Ny130.out] at ho15 | (simp only [Int.reduceToNat] at ho15; rw [← Ny130.out] at ho15)); have n0_ := Aside0.mk (Kd.R_lower ho15 (below_size (by repeat (first | (with_reducible first | exact HB.out | apply below_alloc | apply pw_below_drewN | apply below_drew1) | exact HB.out)))); have n1_ := Aside0.mk (below_step (by repeat (first | (with_reducible first | exact HB.out | apply below_alloc | apply pw_below_drewN | apply below_drew1) | exact HB.out)) hb); clear HB; have HO132 := n0_; have HB := n1_; clear n0_ n1_; clear hb ho15)); try go_wp2_with (first | ((with_reducible refine gate_dst (N := 29) rfl ?_); (try (refine gate_guard (by rfl) ?_; dsimp only)); refine Kd.R_lit Kd.bool _ 4 ?hg (N := 29) ?hd (xs := ([] : List Bool)) (inner := []) (ok := fun _ => True) (okp := fun _ => True) ?hr ?hp (fun _ hk => hk) trivial (Below.refl _ _) (Nat.le_refl _) (by simp) ?_; (case hd => rfl); (case hg => rfl); (case hr => first | (go_simp; done) | (go_simp; rfl)); (case hp => exact (Reps.none _ _)); intro v131 w14 ho15 hb hg_ hnew_; clear hg_ hnew_; (first | rw [← Ny130.out] at ho15 | (simp only [Int.reduceToNat] at ho15; rw [← Ny130.out] at ho15)); have n0_ := Aside0.mk (Kd.R_lower ho15 (below_size (by repeat (first | (with_reducible first | exact HB.out | apply below_alloc | apply pw_below_drewN | apply below_drew1) | exact HB.out)))); have n1_ := Aside0.mk (below_step (by repeat (first | (with_reducible first | exact HB.out | apply below_alloc | apply pw_below_drewN | apply below_drew1) | exact HB.out)) hb); clear HB; have HO132 := n0_; have HB := n1_; clear n0_ n1_; clear hb ho15)))
        go_loopg [7, 8] kj3 (fun kq v7 v8 w' => ∃ (x7_2 : List Bool) (x8_2 : Int), v8 = .int .i64 x8_2 ∧ Aside0 (merkhetref17_Offsets.l0 kq a0 l1 l2 x7_2 x8_2 = some r) ∧ Aside0 (kq ≤ kj3) ∧ Aside0 (Kd.R Kd.bool 4 w' w.heap.size (fun _ => True) v7 x7_2) ∧ Aside0 (Below w.heap.size w w'))
        case atStart => exact ⟨(y130), (0), (by first | rfl | (simp; done) | (simp [*]; done)), H', ⟨Nat.le_refl _⟩, ⟨by (with_reducible repeat (first | apply Kd.R_alloc | apply Kd.R_drewN | apply Kd.R_drew)); exact HO132.out⟩, ⟨by repeat (first | (with_reducible first | exact HB.out | apply below_alloc | apply pw_below_drewN | apply below_drew1) | exact HB.out)⟩⟩
        case round =>
          clear H'
          try clear c1
          try clear c2
          try clear p2
          try clear c6
          try clear c7
          try clear c7b0
          try clear c7b1
          try clear c13
          try clear p2
          obtain ⟨x7_2, x8_2, rfl, HA, HK2, HO_7, HB⟩ := hrel
          cases gk with
          | zero => exact absurd HA.out (by simp [merkhetref17_Offsets.l0])
          | succ k2 =>
            have H := HA.out
            clear HA
            simp only [merkhetref17_Offsets.l0] at H
            by_cases c16 : x8_2 < a0
            · rw [if_pos c16] at H
              have c16b0 : decide (x8_2 < a0) = true := decide_eq_true c16
              clear c16
              by_cases c17 : 0 ≤ x8_2
              · rw [if_pos c17] at H
                have c17b0 : decide (0 ≤ x8_2) = true := decide_eq_true c17
                clear c17
                by_cases c18 : x8_2 < (l2.length : Int)
                · rw [if_pos c18] at H
                  have c18b0 : decide (x8_2 < (l2.length : Int)) = true := decide_eq_true c18
                  clear c18
                  by_cases c19 : (rd l2 x8_2) > 0
                  · rw [if_pos c19] at H
                    have c19b0 : decide (0 < (rd l2 x8_2)) = true := decide_eq_true c19
                    clear c19
                    obtain rfl := Option.some.inj H
                    have p133 : 0 ≤ (x8_2 : Int) := of_decide_eq_true (by first | (with_reducible assumption) | assumption)
                    have q133 : x8_2 < (l2.length : Int) := of_decide_eq_true (by first | (with_reducible assumption) | assumption)
                    obtain ⟨ad133, e133, hx133_0⟩ := Kd.at_int HR2.out x8_2 p133 q133
                    cases e133
                    replace hx133_0 := (HB.out.cell (World.block_lt_of_cell? w _ hx133_0)).trans hx133_0
                    replace p133 := eq_true p133
                    replace q133 := eq_true q133
                    go_wp2
                    repeat (go_quiet (fail); try go_wp2)
                    go_ret
                    exact ⟨by first | rfl | (simp [errW_none, errW_some] <;> rfl) | (simp [*, errW_none, errW_some] <;> rfl), by repeat (first | (with_reducible first | exact HB.out | apply below_alloc | apply pw_below_drewN | apply below_drew1) | exact HB.out)⟩
                  · rw [if_neg c19] at H
                    have c19b0 : decide (0 < (rd l2 x8_2)) = false := decide_eq_false c19
                    clear c19
                    by_cases c20 : (rd l2 x8_2) < (-288230376151711744)
                    · rw [if_pos c20] at H
                      have c20b0 : decide ((rd l2 x8_2) < (-288230376151711744)) = true := decide_eq_true c20
                      clear c20
                      obtain rfl := Option.some.inj H
                      have p133 : 0 ≤ (x8_2 : Int) := of_decide_eq_true (by first | (with_reducible assumption) | assumption)
                      have q133 : x8_2 < (l2.length : Int) := of_decide_eq_true (by first | (with_reducible assumption) | assumption)
                      obtain ⟨ad133, e133, hx133_0⟩ := Kd.at_int HR2.out x8_2 p133 q133
                      cases e133
                      replace hx133_0 := (HB.out.cell (World.block_lt_of_cell? w _ hx133_0)).trans hx133_0
                      replace p133 := eq_true p133
                      replace q133 := eq_true q133
                      have p134 : 0 ≤ (x8_2 : Int) := of_decide_eq_true (by first | (with_reducible assumption) | assumption)
                      have q134 : x8_2 < (l2.length : Int) := of_decide_eq_true (by first | (with_reducible assumption) | assumption)
                      obtain ⟨ad134, e134, hx134_0⟩ := Kd.at_int HR2.out x8_2 p134 q134
                      obtain rfl : ad133 = ad134 := (by injection e134)
                      replace hx134_0 := (HB.out.cell (World.block_lt_of_cell? w _ hx134_0)).trans hx134_0
                      replace p134 := eq_true p134
                      replace q134 := eq_true q134
                      go_wp2
                      repeat (go_quiet (fail); try go_wp2)
                      go_ret
                      exact ⟨by first | rfl | (simp [errW_none, errW_some] <;> rfl) | (simp [*, errW_none, errW_some] <;> rfl), by repeat (first | (with_reducible first | exact HB.out | apply below_alloc | apply pw_below_drewN | apply below_drew1) | exact HB.out)⟩
                    · rw [if_neg c20] at H
                      have c20b0 : decide ((rd l2 x8_2) < (-288230376151711744)) = false := decide_eq_false c20
                      clear c20
                      by_cases c21 : x7_2.length < 140737488355328
                      · rw [if_pos c21] at H
                        have LMc21 := Aside0.mk c21
                        clear c21
                        obtain ⟨y136, hy136⟩ : ∃ y_ : List Bool, y_ = (x7_2 ++ [((rd l2 x8_2) == 0)]) := ⟨_, rfl⟩
                        replace H : (merkhetref17_Offsets.l0 k2 a0 l1 l2 y136 (wrap64 (x8_2 + 1))) = some r := by first | (rw [hy136]; with_reducible exact H) | (have H2_ := (Option.bind_some _ _).symm.trans H; rw [hy136]; with_reducible exact H2_) | (have H2_ := (Option.bind_some _ _).symm.trans H; with_reducible exact H2_) | with_reducible exact H | (rw [hy136]; exact H) | exact H
                        have Ny136 := Aside0.mk hy136
                        clear hy136
                        have H' := Aside0.mk H
                        clear H
                        have p133 : 0 ≤ (x8_2 : Int) := of_decide_eq_true (by first | (with_reducible assumption) | assumption)
                        have q133 : x8_2 < (l2.length : Int) := of_decide_eq_true (by first | (with_reducible assumption) | assumption)
                        obtain ⟨ad133, e133, hx133_0⟩ := Kd.at_int HR2.out x8_2 p133 q133
                        cases e133
                        replace hx133_0 := (HB.out.cell (World.block_lt_of_cell? w _ hx133_0)).trans hx133_0
                        replace p133 := eq_true p133
                        replace q133 := eq_true q133
                        have p134 : 0 ≤ (x8_2 : Int) := of_decide_eq_true (by first | (with_reducible assumption) | assumption)
                        have q134 : x8_2 < (l2.length : Int) := of_decide_eq_true (by first | (with_reducible assumption) | assumption)
                        obtain ⟨ad134, e134, hx134_0⟩ := Kd.at_int HR2.out x8_2 p134 q134
                        obtain rfl : ad133 = ad134 := (by injection e134)
                        replace hx134_0 := (HB.out.cell (World.block_lt_of_cell? w _ hx134_0)).trans hx134_0
                        replace p134 := eq_true p134
                        replace q134 := eq_true q134
                        have p135 : 0 ≤ (x8_2 : Int) := of_decide_eq_true (by first | (with_reducible assumption) | assumption)
                        have q135 : x8_2 < (l2.length : Int) := of_decide_eq_true (by first | (with_reducible assumption) | assumption)
                        obtain ⟨ad135, e135, hx135_0⟩ := Kd.at_int HR2.out x8_2 p135 q135
                        obtain rfl : ad133 = ad135 := (by injection e135)
                        replace hx135_0 := (HB.out.cell (World.block_lt_of_cell? w _ hx135_0)).trans hx135_0
                        replace p135 := eq_true p135
                        replace q135 := eq_true q135
                        go_wp2_with (first | ((with_reducible refine gate_builtin (b := .append) (xs := #[.tmp 47, .tmp 53]) rfl ?_); (try (refine gate_guard (by rfl) ?_; dsimp only)); at_builtin; refine Kd.R_append Kd.bool (w0 := w) w.heap.size rfl (.tmp 47) (.tmp 53) 52 4 (.bool false) 1 rfl Try.underlying52 info4 rfl (by decide) (by omega) u7 x7_2 ((rd l2 x8_2) == 0) [.bool ((rd l2 x8_2) == 0)] (fun _ => True) (fun _ => False) rfl rfl ?aP (fun _ hk => hk.elim) ?aF ?aO ?aB ?aS ?aL ?_; (case aP => exact rfl); (case aB => exact (by repeat (first | (with_reducible first | exact HB.out | apply below_alloc | apply pw_below_drewN | apply below_drew1) | exact HB.out))); (case aF => exact (fun _ _ => trivial)); (case aO => exact (by (with_reducible repeat (first | apply Kd.R_alloc | apply Kd.R_drewN | apply Kd.R_drew)); exact HO_7.out)); (case aS => exact (below_size (by repeat (first | (with_reducible first | exact HB.out | apply below_alloc | apply pw_below_drewN | apply below_drew1) | exact HB.out)))); (case aL => have := LMc21.out; omega); intro v137 w22 ho hb hg hat; rw [← Ny136.out] at ho; have n0_ := Aside0.mk (hb); have n1_ := Aside0.mk (ho); clear HB; clear HO_7; have HB := n0_; have HO138 := n1_; clear n0_ n1_; clear ho hb hg hat))
                        repeat (go_quiet (first | ((with_reducible refine gate_builtin (b := .append) (xs := #[.tmp 47, .tmp 53]) rfl ?_); (try (refine gate_guard (by rfl) ?_; dsimp only)); at_builtin; refine Kd.R_append Kd.bool (w0 := w) w.heap.size rfl (.tmp 47) (.tmp 53) 52 4 (.bool false) 1 rfl Try.underlying52 info4 rfl (by decide) (by omega) u7 x7_2 ((rd l2 x8_2) == 0) [.bool ((rd l2 x8_2) == 0)] (fun _ => True) (fun _ => False) rfl rfl ?aP (fun _ hk => hk.elim) ?aF ?aO ?aB ?aS ?aL ?_; (case aP => exact rfl); (case aB => exact (by repeat (first | (with_reducible first | exact HB.out | apply below_alloc | apply pw_below_drewN | apply below_drew1) | exact HB.out))); (case aF => exact (fun _ _ => trivial)); (case aO => exact (by (with_reducible repeat (first | apply Kd.R_alloc | apply Kd.R_drewN | apply Kd.R_drew)); exact HO_7.out)); (case aS => exact (below_size (by repeat (first | (with_reducible first | exact HB.out | apply below_alloc | apply pw_below_drewN | apply below_drew1) | exact HB.out)))); (case aL => have := LMc21.out; omega); intro v137 w22 ho hb hg hat; rw [← Ny136.out] at ho; have n0_ := Aside0.mk (hb); have n1_ := Aside0.mk (ho); clear HB; clear HO_7; have HB := n0_; have HO138 := n1_; clear n0_ n1_; clear ho hb hg hat)); try go_wp2_with (first | ((with_reducible refine gate_builtin (b := .append) (xs := #[.tmp 47, .tmp 53]) rfl ?_); (try (refine gate_guard (by rfl) ?_; dsimp only)); at_builtin; refine Kd.R_append Kd.bool (w0 := w) w.heap.size rfl (.tmp 47) (.tmp 53) 52 4 (.bool false) 1 rfl Try.underlying52 info4 rfl (by decide) (by omega) u7 x7_2 ((rd l2 x8_2) == 0) [.bool ((rd l2 x8_2) == 0)] (fun _ => True) (fun _ => False) rfl rfl ?aP (fun _ hk => hk.elim) ?aF ?aO ?aB ?aS ?aL ?_; (case aP => exact rfl); (case aB => exact (by repeat (first | (with_reducible first | exact HB.out | apply below_alloc | apply pw_below_drewN | apply below_drew1) | exact HB.out))); (case aF => exact (fun _ _ => trivial)); (case aO => exact (by (with_reducible repeat (first | apply Kd.R_alloc | apply Kd.R_drewN | apply Kd.R_drew)); exact HO_7.out)); (case aS => exact (below_size (by repeat (first | (with_reducible first | exact HB.out | apply below_alloc | apply pw_below_drewN | apply below_drew1) | exact HB.out)))); (case aL => have := LMc21.out; omega); intro v137 w22 ho hb hg hat; rw [← Ny136.out] at ho; have n0_ := Aside0.mk (hb); have n1_ := Aside0.mk (ho); clear HB; clear HO_7; have HB := n0_; have HO138 := n1_; clear n0_ n1_; clear ho hb hg hat)))
                        go_roundg k2
                        case measure => have := HJ3.out; have := HK2.out; omega
                        case rel => exact ⟨(y136), (wrap64 (x8_2 + 1)), (by first | rfl | (simp; done) | (simp [*]; done)), H', ⟨by have := HJ3.out; have := HK2.out; omega⟩, ⟨by (with_reducible repeat (first | apply Kd.R_alloc | apply Kd.R_drewN | apply Kd.R_drew)); exact HO138.out⟩, ⟨by repeat (first | (with_reducible first | exact HB.out | apply below_alloc | apply pw_below_drewN | apply below_drew1) | exact HB.out)⟩⟩
                      · rw [if_neg c21] at H
                        exact absurd H (by simp)
                · rw [if_neg c18] at H
                  exact absurd H (by simp)
              · rw [if_neg c17] at H
                exact absurd H (by simp)
            · rw [if_neg c16] at H
              have c16b0 : decide (x8_2 < a0) = false := decide_eq_false c16
              clear c16
              have H' := Aside0.mk H
              clear H
              go_wp2
              repeat (go_quiet (fail); try go_wp2)
              go_loopg [9] k2 (fun kq v9 w' => ∃ (x7_3 : List Bool) (x9_3 : Int), v9 = .int .i64 x9_3 ∧ Aside0 (merkhetref17_Offsets.l1 kq a0 l1 l2 x7_3 x9_3 = some r) ∧ Aside0 (kq ≤ k2) ∧ Aside0 (Kd.R Kd.bool 4 w' w.heap.size (fun _ => True) u7 x7_3) ∧ Aside0 (Below w.heap.size w w'))
              case atStart => exact ⟨(x7_2), (0), (by first | rfl | (simp; done) | (simp [*]; done)), H', ⟨Nat.le_refl _⟩, ⟨by (with_reducible repeat (first | apply Kd.R_alloc | apply Kd.R_drewN | apply Kd.R_drew)); exact HO_7.out⟩, ⟨by repeat (first | (with_reducible first | exact HB.out | apply below_alloc | apply pw_below_drewN | apply below_drew1) | exact HB.out)⟩⟩
              case round =>
                clear H'
                try clear c1
                try clear p1
                try clear q1
                try clear hx1
                try clear c2
                try clear p2
                try clear c6
                try clear p6
                try clear c7
                try clear c7b0
                try clear c7b1
                try clear c13
                try clear p13
                try clear q13
                try clear hx13
                try clear c16
                try clear c16b0
                try clear c17
                try clear c17b0
                try clear c18
                try clear c18b0
                try clear c19
                try clear c19b0
                try clear c20
                try clear c20b0
                try clear c21
                try clear hx133_0
                try clear hx134_0
                try clear hx135_0
                try clear p133
                try clear p134
                try clear p135
                try clear p2
                try clear q133
                try clear q134
                try clear q135
                obtain ⟨x7_3, x9_3, rfl, HA, HK3, HO_7, HB⟩ := hrel
                cases gk with
                | zero => exact absurd HA.out (by simp [merkhetref17_Offsets.l1])
                | succ k3 =>
                  have H := HA.out
                  clear HA
                  simp only [merkhetref17_Offsets.l1] at H
                  by_cases c23 : x9_3 < a0
                  · rw [if_pos c23] at H
                    have c23b0 : decide (x9_3 < a0) = true := decide_eq_true c23
                    clear c23
                    have H' := Aside0.mk H
                    clear H
                    go_wp2
                    repeat (go_quiet (fail); try go_wp2)
                    go_loopg [10] k3 (fun kq v10 w' => ∃ (x7_4 : List Bool) (x10_4 : Int), v10 = .int .i64 x10_4 ∧ Aside0 (merkhetref17_Offsets.l2 kq a0 l1 l2 x7_4 x9_3 x10_4 = some r) ∧ Aside0 (kq ≤ k3) ∧ Aside0 (Kd.R Kd.bool 4 w' w.heap.size (fun _ => True) u7 x7_4) ∧ Aside0 (Below w.heap.size w w'))
                    case atStart => exact ⟨(x7_3), (0), (by first | rfl | (simp; done) | (simp [*]; done)), H', ⟨Nat.le_refl _⟩, ⟨by (with_reducible repeat (first | apply Kd.R_alloc | apply Kd.R_drewN | apply Kd.R_drew)); exact HO_7.out⟩, ⟨by repeat (first | (with_reducible first | exact HB.out | apply below_alloc | apply pw_below_drewN | apply below_drew1) | exact HB.out)⟩⟩
                    case round =>
                      clear H'
                      try clear c1
                      try clear p1
                      try clear q1
                      try clear hx1
                      try clear c2
                      try clear p2
                      try clear c6
                      try clear p6
                      try clear c7
                      try clear c7b0
                      try clear c7b1
                      try clear c13
                      try clear p13
                      try clear q13
                      try clear hx13
                      try clear c16
                      try clear c16b0
                      try clear c17
                      try clear c17b0
                      try clear c18
                      try clear c18b0
                      try clear c19
                      try clear c19b0
                      try clear c20
                      try clear c20b0
                      try clear c21
                      try clear c23
                      try clear c23b0
                      try clear hx133_0
                      try clear hx134_0
                      try clear hx135_0
                      try clear p1
                      try clear p13
                      try clear p133
                      try clear p134
                      try clear p135
                      try clear p2
                      try clear p6
                      try clear q1
                      try clear q13
                      try clear q133
                      try clear q134
                      try clear q135
                      obtain ⟨x7_4, x10_4, rfl, HA, HK4, HO_7, HB⟩ := hrel
                      cases gk with
                      | zero => exact absurd HA.out (by simp [merkhetref17_Offsets.l2])
                      | succ k4 =>
                        have H := HA.out
                        clear HA
                        simp only [merkhetref17_Offsets.l2] at H
                        by_cases c24 : x10_4 < (l1.length : Int)
                        · rw [if_pos c24] at H
                          have c24b0 : decide (x10_4 < (l1.length : Int)) = true := decide_eq_true c24
                          clear c24
                          by_cases c25 : 0 ≤ x10_4
                          · rw [if_pos c25] at H
                            have c25b0 : decide (0 ≤ x10_4) = true := decide_eq_true c25
                            clear c25
                            by_cases c26 : 0 ≤ ((rd_T48 l1 x10_4).f0)
                            · rw [if_pos c26] at H
                              have c26b0 : decide (0 ≤ ((rd_T48 l1 x10_4).f0)) = true := decide_eq_true c26
                              clear c26
                              by_cases c27 : ((rd_T48 l1 x10_4).f0) < (x7_4.length : Int)
                              · rw [if_pos c27] at H
                                have c27b0 : decide (((rd_T48 l1 x10_4).f0) < (x7_4.length : Int)) = true := decide_eq_true c27
                                clear c27
                                obtain ⟨bq28, hbq28⟩ : ∃ b_ : Bool, b_ = (rdOf false x7_4 ((rd_T48 l1 x10_4).f0)) := ⟨_, rfl⟩
                                replace H : (if bq28 = true then (if ((rd_T48 l1 x10_4).f0) < (l2.length : Int) then (if 0 ≤ ((rd_T48 l1 x10_4).f1) then (if ((rd_T48 l1 x10_4).f1) < (l2.length : Int) then (if (wrap64 ((rd l2 ((rd_T48 l1 x10_4).f0)) + ((rd_T48 l1 x10_4).f2))) = (rd l2 ((rd_T48 l1 x10_4).f1)) then (if ((rd_T48 l1 x10_4).f1) < (x7_4.length : Int) then (merkhetref17_Offsets.l2 k4 a0 l1 l2 (x7_4.set (((rd_T48 l1 x10_4).f1) : Int).toNat true) x9_3 (wrap64 (x10_4 + 1))) else (none)) else (merkhetref17_Offsets.l2 k4 a0 l1 l2 x7_4 x9_3 (wrap64 (x10_4 + 1)))) else (none)) else (none)) else (none)) else (merkhetref17_Offsets.l2 k4 a0 l1 l2 x7_4 x9_3 (wrap64 (x10_4 + 1)))) = some r := by rw [← hbq28] at H; exact H
                                have Nbq28 := Aside0.mk hbq28
                                clear hbq28
                                by_cases c29 : bq28 = true
                                · subst c29
                                  have H1 : (if ((rd_T48 l1 x10_4).f0) < (l2.length : Int) then (if 0 ≤ ((rd_T48 l1 x10_4).f1) then (if ((rd_T48 l1 x10_4).f1) < (l2.length : Int) then (if (wrap64 ((rd l2 ((rd_T48 l1 x10_4).f0)) + ((rd_T48 l1 x10_4).f2))) = (rd l2 ((rd_T48 l1 x10_4).f1)) then (if ((rd_T48 l1 x10_4).f1) < (x7_4.length : Int) then (merkhetref17_Offsets.l2 k4 a0 l1 l2 (x7_4.set (((rd_T48 l1 x10_4).f1) : Int).toNat true) x9_3 (wrap64 (x10_4 + 1))) else (none)) else (merkhetref17_Offsets.l2 k4 a0 l1 l2 x7_4 x9_3 (wrap64 (x10_4 + 1)))) else (none)) else (none)) else (none)) = some r := by rw [if_pos rfl] at H; exact H
                                  clear H
                                  have H := H1
                                  clear H1
                                  by_cases c30 : ((rd_T48 l1 x10_4).f0) < (l2.length : Int)
                                  · rw [if_pos c30] at H
                                    have c30b0 : decide (((rd_T48 l1 x10_4).f0) < (l2.length : Int)) = true := decide_eq_true c30
                                    clear c30
                                    by_cases c31 : 0 ≤ ((rd_T48 l1 x10_4).f1)
                                    · rw [if_pos c31] at H
                                      have c31b0 : decide (0 ≤ ((rd_T48 l1 x10_4).f1)) = true := decide_eq_true c31
                                      clear c31
                                      by_cases c32 : ((rd_T48 l1 x10_4).f1) < (l2.length : Int)
                                      · rw [if_pos c32] at H
                                        have c32b0 : decide (((rd_T48 l1 x10_4).f1) < (l2.length : Int)) = true := decide_eq_true c32
                                        clear c32
                                        by_cases c33 : (wrap64 ((rd l2 ((rd_T48 l1 x10_4).f0)) + ((rd_T48 l1 x10_4).f2))) = (rd l2 ((rd_T48 l1 x10_4).f1))
                                        · rw [if_pos c33] at H
                                          have c33b0 : ((wrap64 ((rd l2 ((rd_T48 l1 x10_4).f0)) + ((rd_T48 l1 x10_4).f2))) == (rd l2 ((rd_T48 l1 x10_4).f1))) = true := beq_iff_eq.mpr c33
                                          have c33b1 : ((wrap64 ((rd l2 ((rd_T48 l1 x10_4).f0)) + ((rd_T48 l1 x10_4).f2))) != (rd l2 ((rd_T48 l1 x10_4).f1))) = false := bne_eq_false_iff_eq.mpr c33
                                          clear c33
                                          by_cases c34 : ((rd_T48 l1 x10_4).f1) < (x7_4.length : Int)
                                          · rw [if_pos c34] at H
                                            have c34b0 : decide (((rd_T48 l1 x10_4).f1) < (x7_4.length : Int)) = true := decide_eq_true c34
                                            clear c34
                                            obtain ⟨y144, hy144⟩ : ∃ y_ : List Bool, y_ = (x7_4.set (((rd_T48 l1 x10_4).f1) : Int).toNat true) := ⟨_, rfl⟩
                                            replace H : (merkhetref17_Offsets.l2 k4 a0 l1 l2 y144 x9_3 (wrap64 (x10_4 + 1))) = some r := by first | (rw [hy144]; with_reducible exact H) | (have H2_ := (Option.bind_some _ _).symm.trans H; rw [hy144]; with_reducible exact H2_) | (have H2_ := (Option.bind_some _ _).symm.trans H; with_reducible exact H2_) | with_reducible exact H | (rw [hy144]; exact H) | exact H
                                            have Ny144 := Aside0.mk hy144
                                            clear hy144
                                            have H' := Aside0.mk H
                                            clear H
                                            have p139 : 0 ≤ (x10_4 : Int) := of_decide_eq_true (by first | (with_reducible assumption) | assumption)
                                            have q139 : x10_4 < (l1.length : Int) := of_decide_eq_true (by first | (with_reducible assumption) | assumption)
                                            obtain ⟨ad139, e139, hx139_0, hx139_1, hx139_2, hx139_3, hx139_4, hx139_5⟩ := at_T48 HR1.out x10_4 p139 q139
                                            (try rw [← Nbq28.out] at hx139_5)
                                            cases e139
                                            replace hx139_0 := (HB.out.cell (World.block_lt_of_cell? w _ hx139_0)).trans hx139_0
                                            replace hx139_1 := (HB.out.cell (World.block_lt_of_cell? w _ hx139_1)).trans hx139_1
                                            replace hx139_2 := (HB.out.cell (World.block_lt_of_cell? w _ hx139_2)).trans hx139_2
                                            replace hx139_3 := (HB.out.cell (World.block_lt_of_cell? w _ hx139_3)).trans hx139_3
                                            replace hx139_4 := (HB.out.cell (World.block_lt_of_cell? w _ hx139_4)).trans hx139_4
                                            replace hx139_5 := (HB.out.cell (World.block_lt_of_cell? w _ hx139_5)).trans hx139_5
                                            replace p139 := eq_true p139
                                            replace q139 := eq_true q139
                                            go_wp2_with (first | ((with_reducible refine gate_dst (N := 11) rfl ?_); (try (refine gate_guard (by rfl) ?_; dsimp only)); refine box_event ?hg (N := 11) ?hd (cs := #[.int .i64 0, .int .i64 0, .int .i64 0, .int .i64 0, .int .i64 0, .bool false]) (t := 48) ?hr ?_; (case hd => rfl); (case hg => rfl); (case hr => first | (go_simp; done) | (go_simp; rfl)); intro gb140 hg w36 hbox hb; have n0_ := Aside0.mk (Kd.R_below (by (with_reducible repeat (first | apply Kd.R_alloc | apply Kd.R_drewN | apply Kd.R_drew)); exact HO_7.out) hb); have n1_ := Aside0.mk (below_step (by repeat (first | (with_reducible first | exact HB.out | apply below_alloc | apply pw_below_drewN | apply below_drew1) | exact HB.out)) hb); have n2_ := Aside0.mk (hbox); have n3_ := Aside0.mk ((by rw [hg]; exact (below_size (by repeat (first | (with_reducible first | exact HB.out | apply below_alloc | apply pw_below_drewN | apply below_drew1) | exact HB.out))) : w.heap.size ≤ gb140)); have n4_ := Aside0.mk ((by rw [hg]; exact (below_size (by repeat (first | (with_reducible first | exact HB.out | apply below_alloc | apply pw_below_drewN | apply below_drew1) | exact HB.out))) : w.heap.size ≤ gb140)); clear HO_7; clear HB; have HO_7 := n0_; have HB := n1_; have BK140 := n2_; have GW140 := n3_; have GE140 := n4_; clear n0_ n1_ n2_ n3_ n4_; clear hb hbox hg; have hcz37_0 : w36.cell? ⟨gb140, 0, none⟩ = some (.int .i64 0) := (blk_cell BK140.out 0).trans rfl; have hcz37_1 : w36.cell? ⟨gb140, 1, none⟩ = some (.int .i64 0) := (blk_cell BK140.out 1).trans rfl; have hcz37_2 : w36.cell? ⟨gb140, 2, none⟩ = some (.int .i64 0) := (blk_cell BK140.out 2).trans rfl; have hcz37_3 : w36.cell? ⟨gb140, 3, none⟩ = some (.int .i64 0) := (blk_cell BK140.out 3).trans rfl; have hcz37_4 : w36.cell? ⟨gb140, 4, none⟩ = some (.int .i64 0) := (blk_cell BK140.out 4).trans rfl; have hcz37_5 : w36.cell? ⟨gb140, 5, none⟩ = some (.bool false) := (blk_cell BK140.out 5).trans rfl; have hfz37_0 := blk_frozen BK140.out 0; have hfz37_1 := blk_frozen BK140.out 1; have hfz37_2 := blk_frozen BK140.out 2; have hfz37_3 := blk_frozen BK140.out 3; have hfz37_4 := blk_frozen BK140.out 4; have hfz37_5 := blk_frozen BK140.out 5) | ((with_reducible refine gate_store (t := 48) (p := 11) rfl ?_); (try (rw [drewN_self w36]; generalize hq_ : World.drewN w36 _ = w36; have n0_ := Aside0.mk (Kd.R_at hq_ HO_7.out); have n1_ := Aside0.mk (blk_at hq_ BK140.out); have n2_ := Aside0.mk (below_at hq_ HB.out); clear hq_ HO_7 BK140 HB; have HO_7 := n0_; have BK140 := n1_; have HB := n2_; clear n0_ n1_ n2_)); refine store_event (t := 48) (p := 11) (v := ?vo_w38) (w1 := ((((((w36.setCell ⟨gb140, 0, none⟩ (.int .i64 ((rd_T48 l1 x10_4).f0))).setCell ⟨gb140, 1, none⟩ (.int .i64 ((rd_T48 l1 x10_4).f1))).setCell ⟨gb140, 2, none⟩ (.int .i64 ((rd_T48 l1 x10_4).f2))).setCell ⟨gb140, 3, none⟩ (.int .i64 ((rd_T48 l1 x10_4).f3.f0))).setCell ⟨gb140, 4, none⟩ (.int .i64 ((rd_T48 l1 x10_4).f3.f1))).setCell ⟨gb140, 5, none⟩ (.bool ((rd_T48 l1 x10_4).f4)))) ?hg ?ho ?hn ?hr ?_; (case ho => rfl); (case hg => rfl); (case hn => rfl); (case hr => first | (go_simp; done) | (go_simp; rfl)); intro w38 hw; have n0_ : Aside0 (Kd.R Kd.bool 4 w38 w.heap.size (fun _ => True) u7 x7_4) := ⟨(by rw [hw]; exact (by (with_reducible repeat (first | apply Kd.R_alloc | apply Kd.R_drewN | apply Kd.R_drew)); exact Kd.R_mono (Kd.R_far (p := ⟨gb140, 5, none⟩) (Kd.R_far (p := ⟨gb140, 4, none⟩) (Kd.R_far (p := ⟨gb140, 3, none⟩) (Kd.R_far (p := ⟨gb140, 2, none⟩) (Kd.R_far (p := ⟨gb140, 1, none⟩) (Kd.R_far (p := ⟨gb140, 0, none⟩) (Kd.R_types HO_7.out BK140.out (by decide)) (fun _ hk => hk.2) (.int .i64 ((rd_T48 l1 x10_4).f0))) (fun _ hk => hk.2) (.int .i64 ((rd_T48 l1 x10_4).f1))) (fun _ hk => hk.2) (.int .i64 ((rd_T48 l1 x10_4).f2))) (fun _ hk => hk.2) (.int .i64 ((rd_T48 l1 x10_4).f3.f0))) (fun _ hk => hk.2) (.int .i64 ((rd_T48 l1 x10_4).f3.f1))) (fun _ hk => hk.2) (.bool ((rd_T48 l1 x10_4).f4))) (fun _ hk => trivial)))⟩; have n1_ : Aside0 (w38.heap[gb140]? = some (.cells #[.int .i64 ((rd_T48 l1 x10_4).f0), .int .i64 ((rd_T48 l1 x10_4).f1), .int .i64 ((rd_T48 l1 x10_4).f2), .int .i64 ((rd_T48 l1 x10_4).f3.f0), .int .i64 ((rd_T48 l1 x10_4).f3.f1), .bool ((rd_T48 l1 x10_4).f4)] 48 (0, 0))) := ⟨(by rw [hw]; exact (by (with_reducible repeat (first | refine blk_drewN ?_ _ | refine blk_drew ?_ | refine blk_alloc ?_ _)); refine blk_put (cs := #[.int .i64 ((rd_T48 l1 x10_4).f0), .int .i64 ((rd_T48 l1 x10_4).f1), .int .i64 ((rd_T48 l1 x10_4).f2), .int .i64 ((rd_T48 l1 x10_4).f3.f0), .int .i64 ((rd_T48 l1 x10_4).f3.f1), .bool false]) ?_ 5 _ rfl; (with_reducible repeat (first | refine blk_drewN ?_ _ | refine blk_drew ?_ | refine blk_alloc ?_ _)); refine blk_put (cs := #[.int .i64 ((rd_T48 l1 x10_4).f0), .int .i64 ((rd_T48 l1 x10_4).f1), .int .i64 ((rd_T48 l1 x10_4).f2), .int .i64 ((rd_T48 l1 x10_4).f3.f0), .int .i64 0, .bool false]) ?_ 4 _ rfl; (with_reducible repeat (first | refine blk_drewN ?_ _ | refine blk_drew ?_ | refine blk_alloc ?_ _)); refine blk_put (cs := #[.int .i64 ((rd_T48 l1 x10_4).f0), .int .i64 ((rd_T48 l1 x10_4).f1), .int .i64 ((rd_T48 l1 x10_4).f2), .int .i64 0, .int .i64 0, .bool false]) ?_ 3 _ rfl; (with_reducible repeat (first | refine blk_drewN ?_ _ | refine blk_drew ?_ | refine blk_alloc ?_ _)); refine blk_put (cs := #[.int .i64 ((rd_T48 l1 x10_4).f0), .int .i64 ((rd_T48 l1 x10_4).f1), .int .i64 0, .int .i64 0, .int .i64 0, .bool false]) ?_ 2 _ rfl; (with_reducible repeat (first | refine blk_drewN ?_ _ | refine blk_drew ?_ | refine blk_alloc ?_ _)); refine blk_put (cs := #[.int .i64 ((rd_T48 l1 x10_4).f0), .int .i64 0, .int .i64 0, .int .i64 0, .int .i64 0, .bool false]) ?_ 1 _ rfl; (with_reducible repeat (first | refine blk_drewN ?_ _ | refine blk_drew ?_ | refine blk_alloc ?_ _)); refine blk_put (cs := #[.int .i64 0, .int .i64 0, .int .i64 0, .int .i64 0, .int .i64 0, .bool false]) ?_ 0 _ rfl; (with_reducible repeat (first | refine blk_drewN ?_ _ | refine blk_drew ?_ | refine blk_alloc ?_ _)); exact BK140.out))⟩; have n2_ : Aside0 (Below w.heap.size w w38) := ⟨(by rw [hw]; exact (by repeat (first | (with_reducible first | exact HB.out | apply below_alloc | apply pw_below_drewN | apply below_drew1 | refine below_set ?_ GE140.out) | exact HB.out)))⟩; clear hw; clear HO_7; clear BK140; clear HB; have HO_7 := n0_; have BK140 := n1_; have HB := n2_; clear n0_ n1_ n2_; have hcz39_0 : w38.cell? ⟨gb140, 0, none⟩ = some (.int .i64 ((rd_T48 l1 x10_4).f0)) := (blk_cell BK140.out 0).trans rfl; have hcz39_1 : w38.cell? ⟨gb140, 1, none⟩ = some (.int .i64 ((rd_T48 l1 x10_4).f1)) := (blk_cell BK140.out 1).trans rfl; have hcz39_2 : w38.cell? ⟨gb140, 2, none⟩ = some (.int .i64 ((rd_T48 l1 x10_4).f2)) := (blk_cell BK140.out 2).trans rfl; have hcz39_3 : w38.cell? ⟨gb140, 3, none⟩ = some (.int .i64 ((rd_T48 l1 x10_4).f3.f0)) := (blk_cell BK140.out 3).trans rfl; have hcz39_4 : w38.cell? ⟨gb140, 4, none⟩ = some (.int .i64 ((rd_T48 l1 x10_4).f3.f1)) := (blk_cell BK140.out 4).trans rfl; have hcz39_5 : w38.cell? ⟨gb140, 5, none⟩ = some (.bool ((rd_T48 l1 x10_4).f4)) := (blk_cell BK140.out 5).trans rfl; have hfz39_0 := blk_frozen BK140.out 0; have hfz39_1 := blk_frozen BK140.out 1; have hfz39_2 := blk_frozen BK140.out 2; have hfz39_3 := blk_frozen BK140.out 3; have hfz39_4 := blk_frozen BK140.out 4; have hfz39_5 := blk_frozen BK140.out 5; obtain ⟨Ao40, co40, eo40⟩ := Kd.R_slice HO_7.out; subst eo40; have p141 : 0 ≤ (((rd_T48 l1 x10_4).f0) : Int) := of_decide_eq_true (by first | (with_reducible assumption) | assumption); have q141 : ((rd_T48 l1 x10_4).f0) < (x7_4.length : Int) := of_decide_eq_true (by first | (with_reducible assumption) | assumption); obtain ⟨ad141, e141, hx141_0⟩ := Kd.at_bool (Kd.R_reads' HO_7.out).2.2 ((rd_T48 l1 x10_4).f0) p141 q141; (try rw [← Nbq28.out] at hx141_0); cases e141; replace p141 := eq_true p141; replace q141 := eq_true q141; have p142 : 0 ≤ (((rd_T48 l1 x10_4).f0) : Int) := of_decide_eq_true (by first | (with_reducible assumption) | assumption); have q142 : ((rd_T48 l1 x10_4).f0) < (l2.length : Int) := of_decide_eq_true (by first | (with_reducible assumption) | assumption); obtain ⟨ad142, e142, hx142_0⟩ := Kd.at_int HR2.out ((rd_T48 l1 x10_4).f0) p142 q142; cases e142; replace hx142_0 := (HB.out.cell (World.block_lt_of_cell? w _ hx142_0)).trans hx142_0; replace p142 := eq_true p142; replace q142 := eq_true q142; have p143 : 0 ≤ (((rd_T48 l1 x10_4).f1) : Int) := of_decide_eq_true (by first | (with_reducible assumption) | assumption); have q143 : ((rd_T48 l1 x10_4).f1) < (l2.length : Int) := of_decide_eq_true (by first | (with_reducible assumption) | assumption); obtain ⟨ad143, e143, hx143_0⟩ := Kd.at_int HR2.out ((rd_T48 l1 x10_4).f1) p143 q143; obtain rfl : ad142 = ad143 := (by injection e143); replace hx143_0 := (HB.out.cell (World.block_lt_of_cell? w _ hx143_0)).trans hx143_0; replace p143 := eq_true p143; replace q143 := eq_true q143; have p35 : 0 ≤ (((rd_T48 l1 x10_4).f1) : Int) := of_decide_eq_true (by first | (with_reducible assumption) | assumption); have q35 : (((rd_T48 l1 x10_4).f1) : Int) < ((x7_4.length : Int) : Int) := of_decide_eq_true (by first | (with_reducible assumption) | assumption); obtain ⟨go35, co35, eo35, gb35, gl35, cl35, HG35⟩ := Kd.R_form HO_7.out (by omega); (first | cases eo35 | (injection eo35 with ea_ en_ ec_; (first | subst ea_ | (injection ea_ with ea_; subst ea_)); subst ec_; clear en_)); have GB35 := Aside0.mk gb35; have GG35 := Aside0.mk HG35; clear gb35 gl35 HG35; (first | simp only [add_plain] at hx141_0 | skip); obtain ⟨hx35_0, hf35_0⟩ := Kd.R_celln false HO_7.out (((rd_T48 l1 x10_4).f1) : Int) p35 q35; replace p35 := eq_true p35; replace q35 := eq_true q35; obtain ⟨hy41_, hz41_⟩ := Kd.R_celln false HO_7.out (((rd_T48 l1 x10_4).f1) : Int) (of_decide_eq_true (by first | (with_reducible assumption) | assumption)) (of_decide_eq_true (by first | (with_reducible assumption) | assumption)); have HP41 := Kd.R_putg HO_7.out (((rd_T48 l1 x10_4).f1) : Int) true) | ((with_reducible refine gate_store (t := 4) (p := 94) rfl ?_); (try (rw [drewN_self w38]; generalize hq_ : World.drewN w38 _ = w38; have n0_ := Aside0.mk (Kd.R_at hq_ HO_7.out); have n1_ := Aside0.mk (blk_at hq_ BK140.out); have n2_ := Aside0.mk (below_at hq_ HB.out); clear hq_ HO_7 BK140 HB; have HO_7 := n0_; have BK140 := n1_; have HB := n2_; clear n0_ n1_ n2_; (try (obtain ⟨hy41_, hz41_⟩ := Kd.R_celln false HO_7.out (((rd_T48 l1 x10_4).f1) : Int) (of_decide_eq_true (by first | (with_reducible assumption) | assumption)) (of_decide_eq_true (by first | (with_reducible assumption) | assumption)))); (try (have HP41 := Kd.R_putg HO_7.out (((rd_T48 l1 x10_4).f1) : Int) true)))); refine store_event (t := 4) (p := 94) (v := ?vo_w42) (w1 := (w38.setCell ⟨go35, (((rd_T48 l1 x10_4).f1) : Int).toNat, none⟩ (.bool true))) ?hg ?ho ?hn ?hr ?_; (case ho => rfl); (case hg => rfl); (case hn => rfl); (case hr => first | (go_simp; done) | (go_simp; rfl)); intro w42 hw; have hg : w38.grownBy w42 (some go35) := (by rw [hw]; exact HP41.2); have hp_ : Kd.R Kd.bool 4 w42 w.heap.size (fun _ => True) (.slice (some ⟨go35, 0, none⟩) x7_4.length co40) y144 := (by rw [hw, Ny144.out]; exact HP41.1); clear HP41; have n0_ := Aside0.mk (hp_); have n1_ := Aside0.mk (blk_grown (g := gb140) (o := .cells #[.int .i64 ((rd_T48 l1 x10_4).f0), .int .i64 ((rd_T48 l1 x10_4).f1), .int .i64 ((rd_T48 l1 x10_4).f2), .int .i64 ((rd_T48 l1 x10_4).f3.f0), .int .i64 ((rd_T48 l1 x10_4).f3.f1), .bool ((rd_T48 l1 x10_4).f4)] 48 (0, 0)) (by (with_reducible repeat (first | refine blk_drewN ?_ _ | refine blk_drew ?_ | refine blk_alloc ?_ _)); exact BK140.out) hg (Kd.R_ne HO_7.out BK140.out (by decide))); have n2_ := Aside0.mk ((by rw [hw]; exact below_set (HB.out) GB35.out : Below w.heap.size w w42)); clear HO_7; clear BK140; clear HB; have HO_7 := n0_; have BK140 := n1_; have HB := n2_; clear n0_ n1_ n2_; clear hg hw hp_))
                                            repeat (go_quiet (first | ((with_reducible refine gate_dst (N := 11) rfl ?_); (try (refine gate_guard (by rfl) ?_; dsimp only)); refine box_event ?hg (N := 11) ?hd (cs := #[.int .i64 0, .int .i64 0, .int .i64 0, .int .i64 0, .int .i64 0, .bool false]) (t := 48) ?hr ?_; (case hd => rfl); (case hg => rfl); (case hr => first | (go_simp; done) | (go_simp; rfl)); intro gb140 hg w36 hbox hb; have n0_ := Aside0.mk (Kd.R_below (by (with_reducible repeat (first | apply Kd.R_alloc | apply Kd.R_drewN | apply Kd.R_drew)); exact HO_7.out) hb); have n1_ := Aside0.mk (below_step (by repeat (first | (with_reducible first | exact HB.out | apply below_alloc | apply pw_below_drewN | apply below_drew1) | exact HB.out)) hb); have n2_ := Aside0.mk (hbox); have n3_ := Aside0.mk ((by rw [hg]; exact (below_size (by repeat (first | (with_reducible first | exact HB.out | apply below_alloc | apply pw_below_drewN | apply below_drew1) | exact HB.out))) : w.heap.size ≤ gb140)); have n4_ := Aside0.mk ((by rw [hg]; exact (below_size (by repeat (first | (with_reducible first | exact HB.out | apply below_alloc | apply pw_below_drewN | apply below_drew1) | exact HB.out))) : w.heap.size ≤ gb140)); clear HO_7; clear HB; have HO_7 := n0_; have HB := n1_; have BK140 := n2_; have GW140 := n3_; have GE140 := n4_; clear n0_ n1_ n2_ n3_ n4_; clear hb hbox hg; have hcz37_0 : w36.cell? ⟨gb140, 0, none⟩ = some (.int .i64 0) := (blk_cell BK140.out 0).trans rfl; have hcz37_1 : w36.cell? ⟨gb140, 1, none⟩ = some (.int .i64 0) := (blk_cell BK140.out 1).trans rfl; have hcz37_2 : w36.cell? ⟨gb140, 2, none⟩ = some (.int .i64 0) := (blk_cell BK140.out 2).trans rfl; have hcz37_3 : w36.cell? ⟨gb140, 3, none⟩ = some (.int .i64 0) := (blk_cell BK140.out 3).trans rfl; have hcz37_4 : w36.cell? ⟨gb140, 4, none⟩ = some (.int .i64 0) := (blk_cell BK140.out 4).trans rfl; have hcz37_5 : w36.cell? ⟨gb140, 5, none⟩ = some (.bool false) := (blk_cell BK140.out 5).trans rfl; have hfz37_0 := blk_frozen BK140.out 0; have hfz37_1 := blk_frozen BK140.out 1; have hfz37_2 := blk_frozen BK140.out 2; have hfz37_3 := blk_frozen BK140.out 3; have hfz37_4 := blk_frozen BK140.out 4; have hfz37_5 := blk_frozen BK140.out 5) | ((with_reducible refine gate_store (t := 48) (p := 11) rfl ?_); (try (rw [drewN_self w36]; generalize hq_ : World.drewN w36 _ = w36; have n0_ := Aside0.mk (Kd.R_at hq_ HO_7.out); have n1_ := Aside0.mk (blk_at hq_ BK140.out); have n2_ := Aside0.mk (below_at hq_ HB.out); clear hq_ HO_7 BK140 HB; have HO_7 := n0_; have BK140 := n1_; have HB := n2_; clear n0_ n1_ n2_)); refine store_event (t := 48) (p := 11) (v := ?vo_w38) (w1 := ((((((w36.setCell ⟨gb140, 0, none⟩ (.int .i64 ((rd_T48 l1 x10_4).f0))).setCell ⟨gb140, 1, none⟩ (.int .i64 ((rd_T48 l1 x10_4).f1))).setCell ⟨gb140, 2, none⟩ (.int .i64 ((rd_T48 l1 x10_4).f2))).setCell ⟨gb140, 3, none⟩ (.int .i64 ((rd_T48 l1 x10_4).f3.f0))).setCell ⟨gb140, 4, none⟩ (.int .i64 ((rd_T48 l1 x10_4).f3.f1))).setCell ⟨gb140, 5, none⟩ (.bool ((rd_T48 l1 x10_4).f4)))) ?hg ?ho ?hn ?hr ?_; (case ho => rfl); (case hg => rfl); (case hn => rfl); (case hr => first | (go_simp; done) | (go_simp; rfl)); intro w38 hw; have n0_ : Aside0 (Kd.R Kd.bool 4 w38 w.heap.size (fun _ => True) u7 x7_4) := ⟨(by rw [hw]; exact (by (with_reducible repeat (first | apply Kd.R_alloc | apply Kd.R_drewN | apply Kd.R_drew)); exact Kd.R_mono (Kd.R_far (p := ⟨gb140, 5, none⟩) (Kd.R_far (p := ⟨gb140, 4, none⟩) (Kd.R_far (p := ⟨gb140, 3, none⟩) (Kd.R_far (p := ⟨gb140, 2, none⟩) (Kd.R_far (p := ⟨gb140, 1, none⟩) (Kd.R_far (p := ⟨gb140, 0, none⟩) (Kd.R_types HO_7.out BK140.out (by decide)) (fun _ hk => hk.2) (.int .i64 ((rd_T48 l1 x10_4).f0))) (fun _ hk => hk.2) (.int .i64 ((rd_T48 l1 x10_4).f1))) (fun _ hk => hk.2) (.int .i64 ((rd_T48 l1 x10_4).f2))) (fun _ hk => hk.2) (.int .i64 ((rd_T48 l1 x10_4).f3.f0))) (fun _ hk => hk.2) (.int .i64 ((rd_T48 l1 x10_4).f3.f1))) (fun _ hk => hk.2) (.bool ((rd_T48 l1 x10_4).f4))) (fun _ hk => trivial)))⟩; have n1_ : Aside0 (w38.heap[gb140]? = some (.cells #[.int .i64 ((rd_T48 l1 x10_4).f0), .int .i64 ((rd_T48 l1 x10_4).f1), .int .i64 ((rd_T48 l1 x10_4).f2), .int .i64 ((rd_T48 l1 x10_4).f3.f0), .int .i64 ((rd_T48 l1 x10_4).f3.f1), .bool ((rd_T48 l1 x10_4).f4)] 48 (0, 0))) := ⟨(by rw [hw]; exact (by (with_reducible repeat (first | refine blk_drewN ?_ _ | refine blk_drew ?_ | refine blk_alloc ?_ _)); refine blk_put (cs := #[.int .i64 ((rd_T48 l1 x10_4).f0), .int .i64 ((rd_T48 l1 x10_4).f1), .int .i64 ((rd_T48 l1 x10_4).f2), .int .i64 ((rd_T48 l1 x10_4).f3.f0), .int .i64 ((rd_T48 l1 x10_4).f3.f1), .bool false]) ?_ 5 _ rfl; (with_reducible repeat (first | refine blk_drewN ?_ _ | refine blk_drew ?_ | refine blk_alloc ?_ _)); refine blk_put (cs := #[.int .i64 ((rd_T48 l1 x10_4).f0), .int .i64 ((rd_T48 l1 x10_4).f1), .int .i64 ((rd_T48 l1 x10_4).f2), .int .i64 ((rd_T48 l1 x10_4).f3.f0), .int .i64 0, .bool false]) ?_ 4 _ rfl; (with_reducible repeat (first | refine blk_drewN ?_ _ | refine blk_drew ?_ | refine blk_alloc ?_ _)); refine blk_put (cs := #[.int .i64 ((rd_T48 l1 x10_4).f0), .int .i64 ((rd_T48 l1 x10_4).f1), .int .i64 ((rd_T48 l1 x10_4).f2), .int .i64 0, .int .i64 0, .bool false]) ?_ 3 _ rfl; (with_reducible repeat (first | refine blk_drewN ?_ _ | refine blk_drew ?_ | refine blk_alloc ?_ _)); refine blk_put (cs := #[.int .i64 ((rd_T48 l1 x10_4).f0), .int .i64 ((rd_T48 l1 x10_4).f1), .int .i64 0, .int .i64 0, .int .i64 0, .bool false]) ?_ 2 _ rfl; (with_reducible repeat (first | refine blk_drewN ?_ _ | refine blk_drew ?_ | refine blk_alloc ?_ _)); refine blk_put (cs := #[.int .i64 ((rd_T48 l1 x10_4).f0), .int .i64 0, .int .i64 0, .int .i64 0, .int .i64 0, .bool false]) ?_ 1 _ rfl; (with_reducible repeat (first | refine blk_drewN ?_ _ | refine blk_drew ?_ | refine blk_alloc ?_ _)); refine blk_put (cs := #[.int .i64 0, .int .i64 0, .int .i64 0, .int .i64 0, .int .i64 0, .bool false]) ?_ 0 _ rfl; (with_reducible repeat (first | refine blk_drewN ?_ _ | refine blk_drew ?_ | refine blk_alloc ?_ _)); exact BK140.out))⟩; have n2_ : Aside0 (Below w.heap.size w w38) := ⟨(by rw [hw]; exact (by repeat (first | (with_reducible first | exact HB.out | apply below_alloc | apply pw_below_drewN | apply below_drew1 | refine below_set ?_ GE140.out) | exact HB.out)))⟩; clear hw; clear HO_7; clear BK140; clear HB; have HO_7 := n0_; have BK140 := n1_; have HB := n2_; clear n0_ n1_ n2_; have hcz39_0 : w38.cell? ⟨gb140, 0, none⟩ = some (.int .i64 ((rd_T48 l1 x10_4).f0)) := (blk_cell BK140.out 0).trans rfl; have hcz39_1 : w38.cell? ⟨gb140, 1, none⟩ = some (.int .i64 ((rd_T48 l1 x10_4).f1)) := (blk_cell BK140.out 1).trans rfl; have hcz39_2 : w38.cell? ⟨gb140, 2, none⟩ = some (.int .i64 ((rd_T48 l1 x10_4).f2)) := (blk_cell BK140.out 2).trans rfl; have hcz39_3 : w38.cell? ⟨gb140, 3, none⟩ = some (.int .i64 ((rd_T48 l1 x10_4).f3.f0)) := (blk_cell BK140.out 3).trans rfl; have hcz39_4 : w38.cell? ⟨gb140, 4, none⟩ = some (.int .i64 ((rd_T48 l1 x10_4).f3.f1)) := (blk_cell BK140.out 4).trans rfl; have hcz39_5 : w38.cell? ⟨gb140, 5, none⟩ = some (.bool ((rd_T48 l1 x10_4).f4)) := (blk_cell BK140.out 5).trans rfl; have hfz39_0 := blk_frozen BK140.out 0; have hfz39_1 := blk_frozen BK140.out 1; have hfz39_2 := blk_frozen BK140.out 2; have hfz39_3 := blk_frozen BK140.out 3; have hfz39_4 := blk_frozen BK140.out 4; have hfz39_5 := blk_frozen BK140.out 5; obtain ⟨Ao40, co40, eo40⟩ := Kd.R_slice HO_7.out; subst eo40; have p141 : 0 ≤ (((rd_T48 l1 x10_4).f0) : Int) := of_decide_eq_true (by first | (with_reducible assumption) | assumption); have q141 : ((rd_T48 l1 x10_4).f0) < (x7_4.length : Int) := of_decide_eq_true (by first | (with_reducible assumption) | assumption); obtain ⟨ad141, e141, hx141_0⟩ := Kd.at_bool (Kd.R_reads' HO_7.out).2.2 ((rd_T48 l1 x10_4).f0) p141 q141; (try rw [← Nbq28.out] at hx141_0); cases e141; replace p141 := eq_true p141; replace q141 := eq_true q141; have p142 : 0 ≤ (((rd_T48 l1 x10_4).f0) : Int) := of_decide_eq_true (by first | (with_reducible assumption) | assumption); have q142 : ((rd_T48 l1 x10_4).f0) < (l2.length : Int) := of_decide_eq_true (by first | (with_reducible assumption) | assumption); obtain ⟨ad142, e142, hx142_0⟩ := Kd.at_int HR2.out ((rd_T48 l1 x10_4).f0) p142 q142; cases e142; replace hx142_0 := (HB.out.cell (World.block_lt_of_cell? w _ hx142_0)).trans hx142_0; replace p142 := eq_true p142; replace q142 := eq_true q142; have p143 : 0 ≤ (((rd_T48 l1 x10_4).f1) : Int) := of_decide_eq_true (by first | (with_reducible assumption) | assumption); have q143 : ((rd_T48 l1 x10_4).f1) < (l2.length : Int) := of_decide_eq_true (by first | (with_reducible assumption) | assumption); obtain ⟨ad143, e143, hx143_0⟩ := Kd.at_int HR2.out ((rd_T48 l1 x10_4).f1) p143 q143; obtain rfl : ad142 = ad143 := (by injection e143); replace hx143_0 := (HB.out.cell (World.block_lt_of_cell? w _ hx143_0)).trans hx143_0; replace p143 := eq_true p143; replace q143 := eq_true q143; have p35 : 0 ≤ (((rd_T48 l1 x10_4).f1) : Int) := of_decide_eq_true (by first | (with_reducible assumption) | assumption); have q35 : (((rd_T48 l1 x10_4).f1) : Int) < ((x7_4.length : Int) : Int) := of_decide_eq_true (by first | (with_reducible assumption) | assumption); obtain ⟨go35, co35, eo35, gb35, gl35, cl35, HG35⟩ := Kd.R_form HO_7.out (by omega); (first | cases eo35 | (injection eo35 with ea_ en_ ec_; (first | subst ea_ | (injection ea_ with ea_; subst ea_)); subst ec_; clear en_)); have GB35 := Aside0.mk gb35; have GG35 := Aside0.mk HG35; clear gb35 gl35 HG35; (first | simp only [add_plain] at hx141_0 | skip); obtain ⟨hx35_0, hf35_0⟩ := Kd.R_celln false HO_7.out (((rd_T48 l1 x10_4).f1) : Int) p35 q35; replace p35 := eq_true p35; replace q35 := eq_true q35; obtain ⟨hy41_, hz41_⟩ := Kd.R_celln false HO_7.out (((rd_T48 l1 x10_4).f1) : Int) (of_decide_eq_true (by first | (with_reducible assumption) | assumption)) (of_decide_eq_true (by first | (with_reducible assumption) | assumption)); have HP41 := Kd.R_putg HO_7.out (((rd_T48 l1 x10_4).f1) : Int) true) | ((with_reducible refine gate_store (t := 4) (p := 94) rfl ?_); (try (rw [drewN_self w38]; generalize hq_ : World.drewN w38 _ = w38; have n0_ := Aside0.mk (Kd.R_at hq_ HO_7.out); have n1_ := Aside0.mk (blk_at hq_ BK140.out); have n2_ := Aside0.mk (below_at hq_ HB.out); clear hq_ HO_7 BK140 HB; have HO_7 := n0_; have BK140 := n1_; have HB := n2_; clear n0_ n1_ n2_; (try (obtain ⟨hy41_, hz41_⟩ := Kd.R_celln false HO_7.out (((rd_T48 l1 x10_4).f1) : Int) (of_decide_eq_true (by first | (with_reducible assumption) | assumption)) (of_decide_eq_true (by first | (with_reducible assumption) | assumption)))); (try (have HP41 := Kd.R_putg HO_7.out (((rd_T48 l1 x10_4).f1) : Int) true)))); refine store_event (t := 4) (p := 94) (v := ?vo_w42) (w1 := (w38.setCell ⟨go35, (((rd_T48 l1 x10_4).f1) : Int).toNat, none⟩ (.bool true))) ?hg ?ho ?hn ?hr ?_; (case ho => rfl); (case hg => rfl); (case hn => rfl); (case hr => first | (go_simp; done) | (go_simp; rfl)); intro w42 hw; have hg : w38.grownBy w42 (some go35) := (by rw [hw]; exact HP41.2); have hp_ : Kd.R Kd.bool 4 w42 w.heap.size (fun _ => True) (.slice (some ⟨go35, 0, none⟩) x7_4.length co40) y144 := (by rw [hw, Ny144.out]; exact HP41.1); clear HP41; have n0_ := Aside0.mk (hp_); have n1_ := Aside0.mk (blk_grown (g := gb140) (o := .cells #[.int .i64 ((rd_T48 l1 x10_4).f0), .int .i64 ((rd_T48 l1 x10_4).f1), .int .i64 ((rd_T48 l1 x10_4).f2), .int .i64 ((rd_T48 l1 x10_4).f3.f0), .int .i64 ((rd_T48 l1 x10_4).f3.f1), .bool ((rd_T48 l1 x10_4).f4)] 48 (0, 0)) (by (with_reducible repeat (first | refine blk_drewN ?_ _ | refine blk_drew ?_ | refine blk_alloc ?_ _)); exact BK140.out) hg (Kd.R_ne HO_7.out BK140.out (by decide))); have n2_ := Aside0.mk ((by rw [hw]; exact below_set (HB.out) GB35.out : Below w.heap.size w w42)); clear HO_7; clear BK140; clear HB; have HO_7 := n0_; have BK140 := n1_; have HB := n2_; clear n0_ n1_ n2_; clear hg hw hp_)); try go_wp2_with (first | ((with_reducible refine gate_dst (N := 11) rfl ?_); (try (refine gate_guard (by rfl) ?_; dsimp only)); refine box_event ?hg (N := 11) ?hd (cs := #[.int .i64 0, .int .i64 0, .int .i64 0, .int .i64 0, .int .i64 0, .bool false]) (t := 48) ?hr ?_; (case hd => rfl); (case hg => rfl); (case hr => first | (go_simp; done) | (go_simp; rfl)); intro gb140 hg w36 hbox hb; have n0_ := Aside0.mk (Kd.R_below (by (with_reducible repeat (first | apply Kd.R_alloc | apply Kd.R_drewN | apply Kd.R_drew)); exact HO_7.out) hb); have n1_ := Aside0.mk (below_step (by repeat (first | (with_reducible first | exact HB.out | apply below_alloc | apply pw_below_drewN | apply below_drew1) | exact HB.out)) hb); have n2_ := Aside0.mk (hbox); have n3_ := Aside0.mk ((by rw [hg]; exact (below_size (by repeat (first | (with_reducible first | exact HB.out | apply below_alloc | apply pw_below_drewN | apply below_drew1) | exact HB.out))) : w.heap.size ≤ gb140)); have n4_ := Aside0.mk ((by rw [hg]; exact (below_size (by repeat (first | (with_reducible first | exact HB.out | apply below_alloc | apply pw_below_drewN | apply below_drew1) | exact HB.out))) : w.heap.size ≤ gb140)); clear HO_7; clear HB; have HO_7 := n0_; have HB := n1_; have BK140 := n2_; have GW140 := n3_; have GE140 := n4_; clear n0_ n1_ n2_ n3_ n4_; clear hb hbox hg; have hcz37_0 : w36.cell? ⟨gb140, 0, none⟩ = some (.int .i64 0) := (blk_cell BK140.out 0).trans rfl; have hcz37_1 : w36.cell? ⟨gb140, 1, none⟩ = some (.int .i64 0) := (blk_cell BK140.out 1).trans rfl; have hcz37_2 : w36.cell? ⟨gb140, 2, none⟩ = some (.int .i64 0) := (blk_cell BK140.out 2).trans rfl; have hcz37_3 : w36.cell? ⟨gb140, 3, none⟩ = some (.int .i64 0) := (blk_cell BK140.out 3).trans rfl; have hcz37_4 : w36.cell? ⟨gb140, 4, none⟩ = some (.int .i64 0) := (blk_cell BK140.out 4).trans rfl; have hcz37_5 : w36.cell? ⟨gb140, 5, none⟩ = some (.bool false) := (blk_cell BK140.out 5).trans rfl; have hfz37_0 := blk_frozen BK140.out 0; have hfz37_1 := blk_frozen BK140.out 1; have hfz37_2 := blk_frozen BK140.out 2; have hfz37_3 := blk_frozen BK140.out 3; have hfz37_4 := blk_frozen BK140.out 4; have hfz37_5 := blk_frozen BK140.out 5) | ((with_reducible refine gate_store (t := 48) (p := 11) rfl ?_); (try (rw [drewN_self w36]; generalize hq_ : World.drewN w36 _ = w36; have n0_ := Aside0.mk (Kd.R_at hq_ HO_7.out); have n1_ := Aside0.mk (blk_at hq_ BK140.out); have n2_ := Aside0.mk (below_at hq_ HB.out); clear hq_ HO_7 BK140 HB; have HO_7 := n0_; have BK140 := n1_; have HB := n2_; clear n0_ n1_ n2_)); refine store_event (t := 48) (p := 11) (v := ?vo_w38) (w1 := ((((((w36.setCell ⟨gb140, 0, none⟩ (.int .i64 ((rd_T48 l1 x10_4).f0))).setCell ⟨gb140, 1, none⟩ (.int .i64 ((rd_T48 l1 x10_4).f1))).setCell ⟨gb140, 2, none⟩ (.int .i64 ((rd_T48 l1 x10_4).f2))).setCell ⟨gb140, 3, none⟩ (.int .i64 ((rd_T48 l1 x10_4).f3.f0))).setCell ⟨gb140, 4, none⟩ (.int .i64 ((rd_T48 l1 x10_4).f3.f1))).setCell ⟨gb140, 5, none⟩ (.bool ((rd_T48 l1 x10_4).f4)))) ?hg ?ho ?hn ?hr ?_; (case ho => rfl); (case hg => rfl); (case hn => rfl); (case hr => first | (go_simp; done) | (go_simp; rfl)); intro w38 hw; have n0_ : Aside0 (Kd.R Kd.bool 4 w38 w.heap.size (fun _ => True) u7 x7_4) := ⟨(by rw [hw]; exact (by (with_reducible repeat (first | apply Kd.R_alloc | apply Kd.R_drewN | apply Kd.R_drew)); exact Kd.R_mono (Kd.R_far (p := ⟨gb140, 5, none⟩) (Kd.R_far (p := ⟨gb140, 4, none⟩) (Kd.R_far (p := ⟨gb140, 3, none⟩) (Kd.R_far (p := ⟨gb140, 2, none⟩) (Kd.R_far (p := ⟨gb140, 1, none⟩) (Kd.R_far (p := ⟨gb140, 0, none⟩) (Kd.R_types HO_7.out BK140.out (by decide)) (fun _ hk => hk.2) (.int .i64 ((rd_T48 l1 x10_4).f0))) (fun _ hk => hk.2) (.int .i64 ((rd_T48 l1 x10_4).f1))) (fun _ hk => hk.2) (.int .i64 ((rd_T48 l1 x10_4).f2))) (fun _ hk => hk.2) (.int .i64 ((rd_T48 l1 x10_4).f3.f0))) (fun _ hk => hk.2) (.int .i64 ((rd_T48 l1 x10_4).f3.f1))) (fun _ hk => hk.2) (.bool ((rd_T48 l1 x10_4).f4))) (fun _ hk => trivial)))⟩; have n1_ : Aside0 (w38.heap[gb140]? = some (.cells #[.int .i64 ((rd_T48 l1 x10_4).f0), .int .i64 ((rd_T48 l1 x10_4).f1), .int .i64 ((rd_T48 l1 x10_4).f2), .int .i64 ((rd_T48 l1 x10_4).f3.f0), .int .i64 ((rd_T48 l1 x10_4).f3.f1), .bool ((rd_T48 l1 x10_4).f4)] 48 (0, 0))) := ⟨(by rw [hw]; exact (by (with_reducible repeat (first | refine blk_drewN ?_ _ | refine blk_drew ?_ | refine blk_alloc ?_ _)); refine blk_put (cs := #[.int .i64 ((rd_T48 l1 x10_4).f0), .int .i64 ((rd_T48 l1 x10_4).f1), .int .i64 ((rd_T48 l1 x10_4).f2), .int .i64 ((rd_T48 l1 x10_4).f3.f0), .int .i64 ((rd_T48 l1 x10_4).f3.f1), .bool false]) ?_ 5 _ rfl; (with_reducible repeat (first | refine blk_drewN ?_ _ | refine blk_drew ?_ | refine blk_alloc ?_ _)); refine blk_put (cs := #[.int .i64 ((rd_T48 l1 x10_4).f0), .int .i64 ((rd_T48 l1 x10_4).f1), .int .i64 ((rd_T48 l1 x10_4).f2), .int .i64 ((rd_T48 l1 x10_4).f3.f0), .int .i64 0, .bool false]) ?_ 4 _ rfl; (with_reducible repeat (first | refine blk_drewN ?_ _ | refine blk_drew ?_ | refine blk_alloc ?_ _)); refine blk_put (cs := #[.int .i64 ((rd_T48 l1 x10_4).f0), .int .i64 ((rd_T48 l1 x10_4).f1), .int .i64 ((rd_T48 l1 x10_4).f2), .int .i64 0, .int .i64 0, .bool false]) ?_ 3 _ rfl; (with_reducible repeat (first | refine blk_drewN ?_ _ | refine blk_drew ?_ | refine blk_alloc ?_ _)); refine blk_put (cs := #[.int .i64 ((rd_T48 l1 x10_4).f0), .int .i64 ((rd_T48 l1 x10_4).f1), .int .i64 0, .int .i64 0, .int .i64 0, .bool false]) ?_ 2 _ rfl; (with_reducible repeat (first | refine blk_drewN ?_ _ | refine blk_drew ?_ | refine blk_alloc ?_ _)); refine blk_put (cs := #[.int .i64 ((rd_T48 l1 x10_4).f0), .int .i64 0, .int .i64 0, .int .i64 0, .int .i64 0, .bool false]) ?_ 1 _ rfl; (with_reducible repeat (first | refine blk_drewN ?_ _ | refine blk_drew ?_ | refine blk_alloc ?_ _)); refine blk_put (cs := #[.int .i64 0, .int .i64 0, .int .i64 0, .int .i64 0, .int .i64 0, .bool false]) ?_ 0 _ rfl; (with_reducible repeat (first | refine blk_drewN ?_ _ | refine blk_drew ?_ | refine blk_alloc ?_ _)); exact BK140.out))⟩; have n2_ : Aside0 (Below w.heap.size w w38) := ⟨(by rw [hw]; exact (by repeat (first | (with_reducible first | exact HB.out | apply below_alloc | apply pw_below_drewN | apply below_drew1 | refine below_set ?_ GE140.out) | exact HB.out)))⟩; clear hw; clear HO_7; clear BK140; clear HB; have HO_7 := n0_; have BK140 := n1_; have HB := n2_; clear n0_ n1_ n2_; have hcz39_0 : w38.cell? ⟨gb140, 0, none⟩ = some (.int .i64 ((rd_T48 l1 x10_4).f0)) := (blk_cell BK140.out 0).trans rfl; have hcz39_1 : w38.cell? ⟨gb140, 1, none⟩ = some (.int .i64 ((rd_T48 l1 x10_4).f1)) := (blk_cell BK140.out 1).trans rfl; have hcz39_2 : w38.cell? ⟨gb140, 2, none⟩ = some (.int .i64 ((rd_T48 l1 x10_4).f2)) := (blk_cell BK140.out 2).trans rfl; have hcz39_3 : w38.cell? ⟨gb140, 3, none⟩ = some (.int .i64 ((rd_T48 l1 x10_4).f3.f0)) := (blk_cell BK140.out 3).trans rfl; have hcz39_4 : w38.cell? ⟨gb140, 4, none⟩ = some (.int .i64 ((rd_T48 l1 x10_4).f3.f1)) := (blk_cell BK140.out 4).trans rfl; have hcz39_5 : w38.cell? ⟨gb140, 5, none⟩ = some (.bool ((rd_T48 l1 x10_4).f4)) := (blk_cell BK140.out 5).trans rfl; have hfz39_0 := blk_frozen BK140.out 0; have hfz39_1 := blk_frozen BK140.out 1; have hfz39_2 := blk_frozen BK140.out 2; have hfz39_3 := blk_frozen BK140.out 3; have hfz39_4 := blk_frozen BK140.out 4; have hfz39_5 := blk_frozen BK140.out 5; obtain ⟨Ao40, co40, eo40⟩ := Kd.R_slice HO_7.out; subst eo40; have p141 : 0 ≤ (((rd_T48 l1 x10_4).f0) : Int) := of_decide_eq_true (by first | (with_reducible assumption) | assumption); have q141 : ((rd_T48 l1 x10_4).f0) < (x7_4.length : Int) := of_decide_eq_true (by first | (with_reducible assumption) | assumption); obtain ⟨ad141, e141, hx141_0⟩ := Kd.at_bool (Kd.R_reads' HO_7.out).2.2 ((rd_T48 l1 x10_4).f0) p141 q141; (try rw [← Nbq28.out] at hx141_0); cases e141; replace p141 := eq_true p141; replace q141 := eq_true q141; have p142 : 0 ≤ (((rd_T48 l1 x10_4).f0) : Int) := of_decide_eq_true (by first | (with_reducible assumption) | assumption); have q142 : ((rd_T48 l1 x10_4).f0) < (l2.length : Int) := of_decide_eq_true (by first | (with_reducible assumption) | assumption); obtain ⟨ad142, e142, hx142_0⟩ := Kd.at_int HR2.out ((rd_T48 l1 x10_4).f0) p142 q142; cases e142; replace hx142_0 := (HB.out.cell (World.block_lt_of_cell? w _ hx142_0)).trans hx142_0; replace p142 := eq_true p142; replace q142 := eq_true q142; have p143 : 0 ≤ (((rd_T48 l1 x10_4).f1) : Int) := of_decide_eq_true (by first | (with_reducible assumption) | assumption); have q143 : ((rd_T48 l1 x10_4).f1) < (l2.length : Int) := of_decide_eq_true (by first | (with_reducible assumption) | assumption); obtain ⟨ad143, e143, hx143_0⟩ := Kd.at_int HR2.out ((rd_T48 l1 x10_4).f1) p143 q143; obtain rfl : ad142 = ad143 := (by injection e143); replace hx143_0 := (HB.out.cell (World.block_lt_of_cell? w _ hx143_0)).trans hx143_0; replace p143 := eq_true p143; replace q143 := eq_true q143; have p35 : 0 ≤ (((rd_T48 l1 x10_4).f1) : Int) := of_decide_eq_true (by first | (with_reducible assumption) | assumption); have q35 : (((rd_T48 l1 x10_4).f1) : Int) < ((x7_4.length : Int) : Int) := of_decide_eq_true (by first | (with_reducible assumption) | assumption); obtain ⟨go35, co35, eo35, gb35, gl35, cl35, HG35⟩ := Kd.R_form HO_7.out (by omega); (first | cases eo35 | (injection eo35 with ea_ en_ ec_; (first | subst ea_ | (injection ea_ with ea_; subst ea_)); subst ec_; clear en_)); have GB35 := Aside0.mk gb35; have GG35 := Aside0.mk HG35; clear gb35 gl35 HG35; (first | simp only [add_plain] at hx141_0 | skip); obtain ⟨hx35_0, hf35_0⟩ := Kd.R_celln false HO_7.out (((rd_T48 l1 x10_4).f1) : Int) p35 q35; replace p35 := eq_true p35; replace q35 := eq_true q35; obtain ⟨hy41_, hz41_⟩ := Kd.R_celln false HO_7.out (((rd_T48 l1 x10_4).f1) : Int) (of_decide_eq_true (by first | (with_reducible assumption) | assumption)) (of_decide_eq_true (by first | (with_reducible assumption) | assumption)); have HP41 := Kd.R_putg HO_7.out (((rd_T48 l1 x10_4).f1) : Int) true) | ((with_reducible refine gate_store (t := 4) (p := 94) rfl ?_); (try (rw [drewN_self w38]; generalize hq_ : World.drewN w38 _ = w38; have n0_ := Aside0.mk (Kd.R_at hq_ HO_7.out); have n1_ := Aside0.mk (blk_at hq_ BK140.out); have n2_ := Aside0.mk (below_at hq_ HB.out); clear hq_ HO_7 BK140 HB; have HO_7 := n0_; have BK140 := n1_; have HB := n2_; clear n0_ n1_ n2_; (try (obtain ⟨hy41_, hz41_⟩ := Kd.R_celln false HO_7.out (((rd_T48 l1 x10_4).f1) : Int) (of_decide_eq_true (by first | (with_reducible assumption) | assumption)) (of_decide_eq_true (by first | (with_reducible assumption) | assumption)))); (try (have HP41 := Kd.R_putg HO_7.out (((rd_T48 l1 x10_4).f1) : Int) true)))); refine store_event (t := 4) (p := 94) (v := ?vo_w42) (w1 := (w38.setCell ⟨go35, (((rd_T48 l1 x10_4).f1) : Int).toNat, none⟩ (.bool true))) ?hg ?ho ?hn ?hr ?_; (case ho => rfl); (case hg => rfl); (case hn => rfl); (case hr => first | (go_simp; done) | (go_simp; rfl)); intro w42 hw; have hg : w38.grownBy w42 (some go35) := (by rw [hw]; exact HP41.2); have hp_ : Kd.R Kd.bool 4 w42 w.heap.size (fun _ => True) (.slice (some ⟨go35, 0, none⟩) x7_4.length co40) y144 := (by rw [hw, Ny144.out]; exact HP41.1); clear HP41; have n0_ := Aside0.mk (hp_); have n1_ := Aside0.mk (blk_grown (g := gb140) (o := .cells #[.int .i64 ((rd_T48 l1 x10_4).f0), .int .i64 ((rd_T48 l1 x10_4).f1), .int .i64 ((rd_T48 l1 x10_4).f2), .int .i64 ((rd_T48 l1 x10_4).f3.f0), .int .i64 ((rd_T48 l1 x10_4).f3.f1), .bool ((rd_T48 l1 x10_4).f4)] 48 (0, 0)) (by (with_reducible repeat (first | refine blk_drewN ?_ _ | refine blk_drew ?_ | refine blk_alloc ?_ _)); exact BK140.out) hg (Kd.R_ne HO_7.out BK140.out (by decide))); have n2_ := Aside0.mk ((by rw [hw]; exact below_set (HB.out) GB35.out : Below w.heap.size w w42)); clear HO_7; clear BK140; clear HB; have HO_7 := n0_; have BK140 := n1_; have HB := n2_; clear n0_ n1_ n2_; clear hg hw hp_)))
                                            go_roundg k4
                                            case measure => have := HJ3.out; have := HK2.out; have := HK3.out; have := HK4.out; omega
                                            case rel => exact ⟨(y144), (wrap64 (x10_4 + 1)), (by first | rfl | (simp; done) | (simp [*]; done)), H', ⟨by have := HJ3.out; have := HK2.out; have := HK3.out; have := HK4.out; omega⟩, ⟨by (with_reducible repeat (first | apply Kd.R_alloc | apply Kd.R_drewN | apply Kd.R_drew)); exact HO_7.out⟩, ⟨by repeat (first | (with_reducible first | exact HB.out | apply below_alloc | apply pw_below_drewN | apply below_drew1 | refine below_set ?_ GE140.out) | exact HB.out)⟩⟩
                                          · rw [if_neg c34] at H
                                            exact absurd H (by simp)
                                        · rw [if_neg c33] at H
                                          have c33b0 : ((wrap64 ((rd l2 ((rd_T48 l1 x10_4).f0)) + ((rd_T48 l1 x10_4).f2))) == (rd l2 ((rd_T48 l1 x10_4).f1))) = false := beq_eq_false_iff_ne.mpr c33
                                          have c33b1 : ((wrap64 ((rd l2 ((rd_T48 l1 x10_4).f0)) + ((rd_T48 l1 x10_4).f2))) != (rd l2 ((rd_T48 l1 x10_4).f1))) = true := bne_iff_ne.mpr c33
                                          have H' := Aside0.mk H
                                          clear H
                                          have p139 : 0 ≤ (x10_4 : Int) := of_decide_eq_true (by first | (with_reducible assumption) | assumption)
                                          have q139 : x10_4 < (l1.length : Int) := of_decide_eq_true (by first | (with_reducible assumption) | assumption)
                                          obtain ⟨ad139, e139, hx139_0, hx139_1, hx139_2, hx139_3, hx139_4, hx139_5⟩ := at_T48 HR1.out x10_4 p139 q139
                                          (try rw [← Nbq28.out] at hx139_5)
                                          cases e139
                                          replace hx139_0 := (HB.out.cell (World.block_lt_of_cell? w _ hx139_0)).trans hx139_0
                                          replace hx139_1 := (HB.out.cell (World.block_lt_of_cell? w _ hx139_1)).trans hx139_1
                                          replace hx139_2 := (HB.out.cell (World.block_lt_of_cell? w _ hx139_2)).trans hx139_2
                                          replace hx139_3 := (HB.out.cell (World.block_lt_of_cell? w _ hx139_3)).trans hx139_3
                                          replace hx139_4 := (HB.out.cell (World.block_lt_of_cell? w _ hx139_4)).trans hx139_4
                                          replace hx139_5 := (HB.out.cell (World.block_lt_of_cell? w _ hx139_5)).trans hx139_5
                                          replace p139 := eq_true p139
                                          replace q139 := eq_true q139
                                          go_wp2_with (first | ((with_reducible refine gate_dst (N := 11) rfl ?_); (try (refine gate_guard (by rfl) ?_; dsimp only)); refine box_event ?hg (N := 11) ?hd (cs := #[.int .i64 0, .int .i64 0, .int .i64 0, .int .i64 0, .int .i64 0, .bool false]) (t := 48) ?hr ?_; (case hd => rfl); (case hg => rfl); (case hr => first | (go_simp; done) | (go_simp; rfl)); intro gb140 hg w43 hbox hb; have n0_ := Aside0.mk (Kd.R_below (by (with_reducible repeat (first | apply Kd.R_alloc | apply Kd.R_drewN | apply Kd.R_drew)); exact HO_7.out) hb); have n1_ := Aside0.mk (below_step (by repeat (first | (with_reducible first | exact HB.out | apply below_alloc | apply pw_below_drewN | apply below_drew1) | exact HB.out)) hb); have n2_ := Aside0.mk (hbox); have n3_ := Aside0.mk ((by rw [hg]; exact (below_size (by repeat (first | (with_reducible first | exact HB.out | apply below_alloc | apply pw_below_drewN | apply below_drew1) | exact HB.out))) : w.heap.size ≤ gb140)); have n4_ := Aside0.mk ((by rw [hg]; exact (below_size (by repeat (first | (with_reducible first | exact HB.out | apply below_alloc | apply pw_below_drewN | apply below_drew1) | exact HB.out))) : w.heap.size ≤ gb140)); clear HO_7; clear HB; have HO_7 := n0_; have HB := n1_; have BK140 := n2_; have GW140 := n3_; have GE140 := n4_; clear n0_ n1_ n2_ n3_ n4_; clear hb hbox hg; have hcz44_0 : w43.cell? ⟨gb140, 0, none⟩ = some (.int .i64 0) := (blk_cell BK140.out 0).trans rfl; have hcz44_1 : w43.cell? ⟨gb140, 1, none⟩ = some (.int .i64 0) := (blk_cell BK140.out 1).trans rfl; have hcz44_2 : w43.cell? ⟨gb140, 2, none⟩ = some (.int .i64 0) := (blk_cell BK140.out 2).trans rfl; have hcz44_3 : w43.cell? ⟨gb140, 3, none⟩ = some (.int .i64 0) := (blk_cell BK140.out 3).trans rfl; have hcz44_4 : w43.cell? ⟨gb140, 4, none⟩ = some (.int .i64 0) := (blk_cell BK140.out 4).trans rfl; have hcz44_5 : w43.cell? ⟨gb140, 5, none⟩ = some (.bool false) := (blk_cell BK140.out 5).trans rfl; have hfz44_0 := blk_frozen BK140.out 0; have hfz44_1 := blk_frozen BK140.out 1; have hfz44_2 := blk_frozen BK140.out 2; have hfz44_3 := blk_frozen BK140.out 3; have hfz44_4 := blk_frozen BK140.out 4; have hfz44_5 := blk_frozen BK140.out 5; obtain ⟨Ao45, co45, eo45⟩ := Kd.R_slice HO_7.out; subst eo45; have p141 : 0 ≤ (((rd_T48 l1 x10_4).f0) : Int) := of_decide_eq_true (by first | (with_reducible assumption) | assumption); have q141 : ((rd_T48 l1 x10_4).f0) < (x7_4.length : Int) := of_decide_eq_true (by first | (with_reducible assumption) | assumption); obtain ⟨ad141, e141, hx141_0⟩ := Kd.at_bool (Kd.R_reads' HO_7.out).2.2 ((rd_T48 l1 x10_4).f0) p141 q141; (try rw [← Nbq28.out] at hx141_0); cases e141; have hn141_0 : ad141.block ≠ gb140 := Kd.own_blk (Kd.R_ne HO_7.out BK140.out (by decide)); have hn141_1 : ad141.block ≠ gb140 := Kd.own_blk (Kd.R_ne HO_7.out BK140.out (by decide)); have hn141_2 : ad141.block ≠ gb140 := Kd.own_blk (Kd.R_ne HO_7.out BK140.out (by decide)); have hn141_3 : ad141.block ≠ gb140 := Kd.own_blk (Kd.R_ne HO_7.out BK140.out (by decide)); have hn141_4 : ad141.block ≠ gb140 := Kd.own_blk (Kd.R_ne HO_7.out BK140.out (by decide)); have hn141_5 : ad141.block ≠ gb140 := Kd.own_blk (Kd.R_ne HO_7.out BK140.out (by decide)); replace hx141_0 := (cell_far (p := ⟨gb140, 0, none⟩) (by first | (rw [add_block]; exact hn141_0) | (show (Addr.add _ _).block ≠ _; rw [add_block]; exact hn141_0) | exact hn141_0) (.int .i64 ((rd_T48 l1 x10_4).f0))).trans hx141_0; replace hx141_0 := (cell_far (p := ⟨gb140, 1, none⟩) (by first | (rw [add_block]; exact hn141_1) | (show (Addr.add _ _).block ≠ _; rw [add_block]; exact hn141_1) | exact hn141_1) (.int .i64 ((rd_T48 l1 x10_4).f1))).trans hx141_0; replace hx141_0 := (cell_far (p := ⟨gb140, 2, none⟩) (by first | (rw [add_block]; exact hn141_2) | (show (Addr.add _ _).block ≠ _; rw [add_block]; exact hn141_2) | exact hn141_2) (.int .i64 ((rd_T48 l1 x10_4).f2))).trans hx141_0; replace hx141_0 := (cell_far (p := ⟨gb140, 3, none⟩) (by first | (rw [add_block]; exact hn141_3) | (show (Addr.add _ _).block ≠ _; rw [add_block]; exact hn141_3) | exact hn141_3) (.int .i64 ((rd_T48 l1 x10_4).f3.f0))).trans hx141_0; replace hx141_0 := (cell_far (p := ⟨gb140, 4, none⟩) (by first | (rw [add_block]; exact hn141_4) | (show (Addr.add _ _).block ≠ _; rw [add_block]; exact hn141_4) | exact hn141_4) (.int .i64 ((rd_T48 l1 x10_4).f3.f1))).trans hx141_0; replace hx141_0 := (cell_far (p := ⟨gb140, 5, none⟩) (by first | (rw [add_block]; exact hn141_5) | (show (Addr.add _ _).block ≠ _; rw [add_block]; exact hn141_5) | exact hn141_5) (.bool ((rd_T48 l1 x10_4).f4))).trans hx141_0; (try have hy141_0 := fun (n_ : Nat) => (show ((((((((w43.drewN n_).setCell ⟨gb140, 0, none⟩ (.int .i64 ((rd_T48 l1 x10_4).f0))).setCell ⟨gb140, 1, none⟩ (.int .i64 ((rd_T48 l1 x10_4).f1))).setCell ⟨gb140, 2, none⟩ (.int .i64 ((rd_T48 l1 x10_4).f2))).setCell ⟨gb140, 3, none⟩ (.int .i64 ((rd_T48 l1 x10_4).f3.f0))).setCell ⟨gb140, 4, none⟩ (.int .i64 ((rd_T48 l1 x10_4).f3.f1))).setCell ⟨gb140, 5, none⟩ (.bool ((rd_T48 l1 x10_4).f4)))).cell? _ = some _ from hx141_0)); clear hn141_0; clear hn141_1; clear hn141_2; clear hn141_3; clear hn141_4; clear hn141_5; replace p141 := eq_true p141; replace q141 := eq_true q141; have p142 : 0 ≤ (((rd_T48 l1 x10_4).f0) : Int) := of_decide_eq_true (by first | (with_reducible assumption) | assumption); have q142 : ((rd_T48 l1 x10_4).f0) < (l2.length : Int) := of_decide_eq_true (by first | (with_reducible assumption) | assumption); obtain ⟨ad142, e142, hx142_0⟩ := Kd.at_int HR2.out ((rd_T48 l1 x10_4).f0) p142 q142; cases e142; have hn142_0 : ad142.block ≠ gb140 := Nat.ne_of_lt (Nat.lt_of_lt_of_le (by have := World.block_lt_of_cell? _ _ hx142_0; first | rwa [add_block] at this | exact this) GW140.out); have hn142_1 : ad142.block ≠ gb140 := Nat.ne_of_lt (Nat.lt_of_lt_of_le (by have := World.block_lt_of_cell? _ _ hx142_0; first | rwa [add_block] at this | exact this) GW140.out); have hn142_2 : ad142.block ≠ gb140 := Nat.ne_of_lt (Nat.lt_of_lt_of_le (by have := World.block_lt_of_cell? _ _ hx142_0; first | rwa [add_block] at this | exact this) GW140.out); have hn142_3 : ad142.block ≠ gb140 := Nat.ne_of_lt (Nat.lt_of_lt_of_le (by have := World.block_lt_of_cell? _ _ hx142_0; first | rwa [add_block] at this | exact this) GW140.out); have hn142_4 : ad142.block ≠ gb140 := Nat.ne_of_lt (Nat.lt_of_lt_of_le (by have := World.block_lt_of_cell? _ _ hx142_0; first | rwa [add_block] at this | exact this) GW140.out); have hn142_5 : ad142.block ≠ gb140 := Nat.ne_of_lt (Nat.lt_of_lt_of_le (by have := World.block_lt_of_cell? _ _ hx142_0; first | rwa [add_block] at this | exact this) GW140.out); replace hx142_0 := (HB.out.cell (World.block_lt_of_cell? w _ hx142_0)).trans hx142_0; replace hx142_0 := (cell_far (p := ⟨gb140, 0, none⟩) (by first | (rw [add_block]; exact hn142_0) | (show (Addr.add _ _).block ≠ _; rw [add_block]; exact hn142_0) | exact hn142_0) (.int .i64 ((rd_T48 l1 x10_4).f0))).trans hx142_0; replace hx142_0 := (cell_far (p := ⟨gb140, 1, none⟩) (by first | (rw [add_block]; exact hn142_1) | (show (Addr.add _ _).block ≠ _; rw [add_block]; exact hn142_1) | exact hn142_1) (.int .i64 ((rd_T48 l1 x10_4).f1))).trans hx142_0; replace hx142_0 := (cell_far (p := ⟨gb140, 2, none⟩) (by first | (rw [add_block]; exact hn142_2) | (show (Addr.add _ _).block ≠ _; rw [add_block]; exact hn142_2) | exact hn142_2) (.int .i64 ((rd_T48 l1 x10_4).f2))).trans hx142_0; replace hx142_0 := (cell_far (p := ⟨gb140, 3, none⟩) (by first | (rw [add_block]; exact hn142_3) | (show (Addr.add _ _).block ≠ _; rw [add_block]; exact hn142_3) | exact hn142_3) (.int .i64 ((rd_T48 l1 x10_4).f3.f0))).trans hx142_0; replace hx142_0 := (cell_far (p := ⟨gb140, 4, none⟩) (by first | (rw [add_block]; exact hn142_4) | (show (Addr.add _ _).block ≠ _; rw [add_block]; exact hn142_4) | exact hn142_4) (.int .i64 ((rd_T48 l1 x10_4).f3.f1))).trans hx142_0; replace hx142_0 := (cell_far (p := ⟨gb140, 5, none⟩) (by first | (rw [add_block]; exact hn142_5) | (show (Addr.add _ _).block ≠ _; rw [add_block]; exact hn142_5) | exact hn142_5) (.bool ((rd_T48 l1 x10_4).f4))).trans hx142_0; (try have hy142_0 := fun (n_ : Nat) => (show ((((((((w43.drewN n_).setCell ⟨gb140, 0, none⟩ (.int .i64 ((rd_T48 l1 x10_4).f0))).setCell ⟨gb140, 1, none⟩ (.int .i64 ((rd_T48 l1 x10_4).f1))).setCell ⟨gb140, 2, none⟩ (.int .i64 ((rd_T48 l1 x10_4).f2))).setCell ⟨gb140, 3, none⟩ (.int .i64 ((rd_T48 l1 x10_4).f3.f0))).setCell ⟨gb140, 4, none⟩ (.int .i64 ((rd_T48 l1 x10_4).f3.f1))).setCell ⟨gb140, 5, none⟩ (.bool ((rd_T48 l1 x10_4).f4)))).cell? _ = some _ from hx142_0)); clear hn142_0; clear hn142_1; clear hn142_2; clear hn142_3; clear hn142_4; clear hn142_5; replace p142 := eq_true p142; replace q142 := eq_true q142; have p143 : 0 ≤ (((rd_T48 l1 x10_4).f1) : Int) := of_decide_eq_true (by first | (with_reducible assumption) | assumption); have q143 : ((rd_T48 l1 x10_4).f1) < (l2.length : Int) := of_decide_eq_true (by first | (with_reducible assumption) | assumption); obtain ⟨ad143, e143, hx143_0⟩ := Kd.at_int HR2.out ((rd_T48 l1 x10_4).f1) p143 q143; obtain rfl : ad142 = ad143 := (by injection e143); have hn143_0 : ad142.block ≠ gb140 := Nat.ne_of_lt (Nat.lt_of_lt_of_le (by have := World.block_lt_of_cell? _ _ hx143_0; first | rwa [add_block] at this | exact this) GW140.out); have hn143_1 : ad142.block ≠ gb140 := Nat.ne_of_lt (Nat.lt_of_lt_of_le (by have := World.block_lt_of_cell? _ _ hx143_0; first | rwa [add_block] at this | exact this) GW140.out); have hn143_2 : ad142.block ≠ gb140 := Nat.ne_of_lt (Nat.lt_of_lt_of_le (by have := World.block_lt_of_cell? _ _ hx143_0; first | rwa [add_block] at this | exact this) GW140.out); have hn143_3 : ad142.block ≠ gb140 := Nat.ne_of_lt (Nat.lt_of_lt_of_le (by have := World.block_lt_of_cell? _ _ hx143_0; first | rwa [add_block] at this | exact this) GW140.out); have hn143_4 : ad142.block ≠ gb140 := Nat.ne_of_lt (Nat.lt_of_lt_of_le (by have := World.block_lt_of_cell? _ _ hx143_0; first | rwa [add_block] at this | exact this) GW140.out); have hn143_5 : ad142.block ≠ gb140 := Nat.ne_of_lt (Nat.lt_of_lt_of_le (by have := World.block_lt_of_cell? _ _ hx143_0; first | rwa [add_block] at this | exact this) GW140.out); replace hx143_0 := (HB.out.cell (World.block_lt_of_cell? w _ hx143_0)).trans hx143_0; replace hx143_0 := (cell_far (p := ⟨gb140, 0, none⟩) (by first | (rw [add_block]; exact hn143_0) | (show (Addr.add _ _).block ≠ _; rw [add_block]; exact hn143_0) | exact hn143_0) (.int .i64 ((rd_T48 l1 x10_4).f0))).trans hx143_0; replace hx143_0 := (cell_far (p := ⟨gb140, 1, none⟩) (by first | (rw [add_block]; exact hn143_1) | (show (Addr.add _ _).block ≠ _; rw [add_block]; exact hn143_1) | exact hn143_1) (.int .i64 ((rd_T48 l1 x10_4).f1))).trans hx143_0; replace hx143_0 := (cell_far (p := ⟨gb140, 2, none⟩) (by first | (rw [add_block]; exact hn143_2) | (show (Addr.add _ _).block ≠ _; rw [add_block]; exact hn143_2) | exact hn143_2) (.int .i64 ((rd_T48 l1 x10_4).f2))).trans hx143_0; replace hx143_0 := (cell_far (p := ⟨gb140, 3, none⟩) (by first | (rw [add_block]; exact hn143_3) | (show (Addr.add _ _).block ≠ _; rw [add_block]; exact hn143_3) | exact hn143_3) (.int .i64 ((rd_T48 l1 x10_4).f3.f0))).trans hx143_0; replace hx143_0 := (cell_far (p := ⟨gb140, 4, none⟩) (by first | (rw [add_block]; exact hn143_4) | (show (Addr.add _ _).block ≠ _; rw [add_block]; exact hn143_4) | exact hn143_4) (.int .i64 ((rd_T48 l1 x10_4).f3.f1))).trans hx143_0; replace hx143_0 := (cell_far (p := ⟨gb140, 5, none⟩) (by first | (rw [add_block]; exact hn143_5) | (show (Addr.add _ _).block ≠ _; rw [add_block]; exact hn143_5) | exact hn143_5) (.bool ((rd_T48 l1 x10_4).f4))).trans hx143_0; (try have hy143_0 := fun (n_ : Nat) => (show ((((((((w43.drewN n_).setCell ⟨gb140, 0, none⟩ (.int .i64 ((rd_T48 l1 x10_4).f0))).setCell ⟨gb140, 1, none⟩ (.int .i64 ((rd_T48 l1 x10_4).f1))).setCell ⟨gb140, 2, none⟩ (.int .i64 ((rd_T48 l1 x10_4).f2))).setCell ⟨gb140, 3, none⟩ (.int .i64 ((rd_T48 l1 x10_4).f3.f0))).setCell ⟨gb140, 4, none⟩ (.int .i64 ((rd_T48 l1 x10_4).f3.f1))).setCell ⟨gb140, 5, none⟩ (.bool ((rd_T48 l1 x10_4).f4)))).cell? _ = some _ from hx143_0)); clear hn143_0; clear hn143_1; clear hn143_2; clear hn143_3; clear hn143_4; clear hn143_5; replace p143 := eq_true p143; replace q143 := eq_true q143))
                                          repeat (go_quiet (first | ((with_reducible refine gate_dst (N := 11) rfl ?_); (try (refine gate_guard (by rfl) ?_; dsimp only)); refine box_event ?hg (N := 11) ?hd (cs := #[.int .i64 0, .int .i64 0, .int .i64 0, .int .i64 0, .int .i64 0, .bool false]) (t := 48) ?hr ?_; (case hd => rfl); (case hg => rfl); (case hr => first | (go_simp; done) | (go_simp; rfl)); intro gb140 hg w43 hbox hb; have n0_ := Aside0.mk (Kd.R_below (by (with_reducible repeat (first | apply Kd.R_alloc | apply Kd.R_drewN | apply Kd.R_drew)); exact HO_7.out) hb); have n1_ := Aside0.mk (below_step (by repeat (first | (with_reducible first | exact HB.out | apply below_alloc | apply pw_below_drewN | apply below_drew1) | exact HB.out)) hb); have n2_ := Aside0.mk (hbox); have n3_ := Aside0.mk ((by rw [hg]; exact (below_size (by repeat (first | (with_reducible first | exact HB.out | apply below_alloc | apply pw_below_drewN | apply below_drew1) | exact HB.out))) : w.heap.size ≤ gb140)); have n4_ := Aside0.mk ((by rw [hg]; exact (below_size (by repeat (first | (with_reducible first | exact HB.out | apply below_alloc | apply pw_below_drewN | apply below_drew1) | exact HB.out))) : w.heap.size ≤ gb140)); clear HO_7; clear HB; have HO_7 := n0_; have HB := n1_; have BK140 := n2_; have GW140 := n3_; have GE140 := n4_; clear n0_ n1_ n2_ n3_ n4_; clear hb hbox hg; have hcz44_0 : w43.cell? ⟨gb140, 0, none⟩ = some (.int .i64 0) := (blk_cell BK140.out 0).trans rfl; have hcz44_1 : w43.cell? ⟨gb140, 1, none⟩ = some (.int .i64 0) := (blk_cell BK140.out 1).trans rfl; have hcz44_2 : w43.cell? ⟨gb140, 2, none⟩ = some (.int .i64 0) := (blk_cell BK140.out 2).trans rfl; have hcz44_3 : w43.cell? ⟨gb140, 3, none⟩ = some (.int .i64 0) := (blk_cell BK140.out 3).trans rfl; have hcz44_4 : w43.cell? ⟨gb140, 4, none⟩ = some (.int .i64 0) := (blk_cell BK140.out 4).trans rfl; have hcz44_5 : w43.cell? ⟨gb140, 5, none⟩ = some (.bool false) := (blk_cell BK140.out 5).trans rfl; have hfz44_0 := blk_frozen BK140.out 0; have hfz44_1 := blk_frozen BK140.out 1; have hfz44_2 := blk_frozen BK140.out 2; have hfz44_3 := blk_frozen BK140.out 3; have hfz44_4 := blk_frozen BK140.out 4; have hfz44_5 := blk_frozen BK140.out 5; obtain ⟨Ao45, co45, eo45⟩ := Kd.R_slice HO_7.out; subst eo45; have p141 : 0 ≤ (((rd_T48 l1 x10_4).f0) : Int) := of_decide_eq_true (by first | (with_reducible assumption) | assumption); have q141 : ((rd_T48 l1 x10_4).f0) < (x7_4.length : Int) := of_decide_eq_true (by first | (with_reducible assumption) | assumption); obtain ⟨ad141, e141, hx141_0⟩ := Kd.at_bool (Kd.R_reads' HO_7.out).2.2 ((rd_T48 l1 x10_4).f0) p141 q141; (try rw [← Nbq28.out] at hx141_0); cases e141; have hn141_0 : ad141.block ≠ gb140 := Kd.own_blk (Kd.R_ne HO_7.out BK140.out (by decide)); have hn141_1 : ad141.block ≠ gb140 := Kd.own_blk (Kd.R_ne HO_7.out BK140.out (by decide)); have hn141_2 : ad141.block ≠ gb140 := Kd.own_blk (Kd.R_ne HO_7.out BK140.out (by decide)); have hn141_3 : ad141.block ≠ gb140 := Kd.own_blk (Kd.R_ne HO_7.out BK140.out (by decide)); have hn141_4 : ad141.block ≠ gb140 := Kd.own_blk (Kd.R_ne HO_7.out BK140.out (by decide)); have hn141_5 : ad141.block ≠ gb140 := Kd.own_blk (Kd.R_ne HO_7.out BK140.out (by decide)); replace hx141_0 := (cell_far (p := ⟨gb140, 0, none⟩) (by first | (rw [add_block]; exact hn141_0) | (show (Addr.add _ _).block ≠ _; rw [add_block]; exact hn141_0) | exact hn141_0) (.int .i64 ((rd_T48 l1 x10_4).f0))).trans hx141_0; replace hx141_0 := (cell_far (p := ⟨gb140, 1, none⟩) (by first | (rw [add_block]; exact hn141_1) | (show (Addr.add _ _).block ≠ _; rw [add_block]; exact hn141_1) | exact hn141_1) (.int .i64 ((rd_T48 l1 x10_4).f1))).trans hx141_0; replace hx141_0 := (cell_far (p := ⟨gb140, 2, none⟩) (by first | (rw [add_block]; exact hn141_2) | (show (Addr.add _ _).block ≠ _; rw [add_block]; exact hn141_2) | exact hn141_2) (.int .i64 ((rd_T48 l1 x10_4).f2))).trans hx141_0; replace hx141_0 := (cell_far (p := ⟨gb140, 3, none⟩) (by first | (rw [add_block]; exact hn141_3) | (show (Addr.add _ _).block ≠ _; rw [add_block]; exact hn141_3) | exact hn141_3) (.int .i64 ((rd_T48 l1 x10_4).f3.f0))).trans hx141_0; replace hx141_0 := (cell_far (p := ⟨gb140, 4, none⟩) (by first | (rw [add_block]; exact hn141_4) | (show (Addr.add _ _).block ≠ _; rw [add_block]; exact hn141_4) | exact hn141_4) (.int .i64 ((rd_T48 l1 x10_4).f3.f1))).trans hx141_0; replace hx141_0 := (cell_far (p := ⟨gb140, 5, none⟩) (by first | (rw [add_block]; exact hn141_5) | (show (Addr.add _ _).block ≠ _; rw [add_block]; exact hn141_5) | exact hn141_5) (.bool ((rd_T48 l1 x10_4).f4))).trans hx141_0; (try have hy141_0 := fun (n_ : Nat) => (show ((((((((w43.drewN n_).setCell ⟨gb140, 0, none⟩ (.int .i64 ((rd_T48 l1 x10_4).f0))).setCell ⟨gb140, 1, none⟩ (.int .i64 ((rd_T48 l1 x10_4).f1))).setCell ⟨gb140, 2, none⟩ (.int .i64 ((rd_T48 l1 x10_4).f2))).setCell ⟨gb140, 3, none⟩ (.int .i64 ((rd_T48 l1 x10_4).f3.f0))).setCell ⟨gb140, 4, none⟩ (.int .i64 ((rd_T48 l1 x10_4).f3.f1))).setCell ⟨gb140, 5, none⟩ (.bool ((rd_T48 l1 x10_4).f4)))).cell? _ = some _ from hx141_0)); clear hn141_0; clear hn141_1; clear hn141_2; clear hn141_3; clear hn141_4; clear hn141_5; replace p141 := eq_true p141; replace q141 := eq_true q141; have p142 : 0 ≤ (((rd_T48 l1 x10_4).f0) : Int) := of_decide_eq_true (by first | (with_reducible assumption) | assumption); have q142 : ((rd_T48 l1 x10_4).f0) < (l2.length : Int) := of_decide_eq_true (by first | (with_reducible assumption) | assumption); obtain ⟨ad142, e142, hx142_0⟩ := Kd.at_int HR2.out ((rd_T48 l1 x10_4).f0) p142 q142; cases e142; have hn142_0 : ad142.block ≠ gb140 := Nat.ne_of_lt (Nat.lt_of_lt_of_le (by have := World.block_lt_of_cell? _ _ hx142_0; first | rwa [add_block] at this | exact this) GW140.out); have hn142_1 : ad142.block ≠ gb140 := Nat.ne_of_lt (Nat.lt_of_lt_of_le (by have := World.block_lt_of_cell? _ _ hx142_0; first | rwa [add_block] at this | exact this) GW140.out); have hn142_2 : ad142.block ≠ gb140 := Nat.ne_of_lt (Nat.lt_of_lt_of_le (by have := World.block_lt_of_cell? _ _ hx142_0; first | rwa [add_block] at this | exact this) GW140.out); have hn142_3 : ad142.block ≠ gb140 := Nat.ne_of_lt (Nat.lt_of_lt_of_le (by have := World.block_lt_of_cell? _ _ hx142_0; first | rwa [add_block] at this | exact this) GW140.out); have hn142_4 : ad142.block ≠ gb140 := Nat.ne_of_lt (Nat.lt_of_lt_of_le (by have := World.block_lt_of_cell? _ _ hx142_0; first | rwa [add_block] at this | exact this) GW140.out); have hn142_5 : ad142.block ≠ gb140 := Nat.ne_of_lt (Nat.lt_of_lt_of_le (by have := World.block_lt_of_cell? _ _ hx142_0; first | rwa [add_block] at this | exact this) GW140.out); replace hx142_0 := (HB.out.cell (World.block_lt_of_cell? w _ hx142_0)).trans hx142_0; replace hx142_0 := (cell_far (p := ⟨gb140, 0, none⟩) (by first | (rw [add_block]; exact hn142_0) | (show (Addr.add _ _).block ≠ _; rw [add_block]; exact hn142_0) | exact hn142_0) (.int .i64 ((rd_T48 l1 x10_4).f0))).trans hx142_0; replace hx142_0 := (cell_far (p := ⟨gb140, 1, none⟩) (by first | (rw [add_block]; exact hn142_1) | (show (Addr.add _ _).block ≠ _; rw [add_block]; exact hn142_1) | exact hn142_1) (.int .i64 ((rd_T48 l1 x10_4).f1))).trans hx142_0; replace hx142_0 := (cell_far (p := ⟨gb140, 2, none⟩) (by first | (rw [add_block]; exact hn142_2) | (show (Addr.add _ _).block ≠ _; rw [add_block]; exact hn142_2) | exact hn142_2) (.int .i64 ((rd_T48 l1 x10_4).f2))).trans hx142_0; replace hx142_0 := (cell_far (p := ⟨gb140, 3, none⟩) (by first | (rw [add_block]; exact hn142_3) | (show (Addr.add _ _).block ≠ _; rw [add_block]; exact hn142_3) | exact hn142_3) (.int .i64 ((rd_T48 l1 x10_4).f3.f0))).trans hx142_0; replace hx142_0 := (cell_far (p := ⟨gb140, 4, none⟩) (by first | (rw [add_block]; exact hn142_4) | (show (Addr.add _ _).block ≠ _; rw [add_block]; exact hn142_4) | exact hn142_4) (.int .i64 ((rd_T48 l1 x10_4).f3.f1))).trans hx142_0; replace hx142_0 := (cell_far (p := ⟨gb140, 5, none⟩) (by first | (rw [add_block]; exact hn142_5) | (show (Addr.add _ _).block ≠ _; rw [add_block]; exact hn142_5) | exact hn142_5) (.bool ((rd_T48 l1 x10_4).f4))).trans hx142_0; (try have hy142_0 := fun (n_ : Nat) => (show ((((((((w43.drewN n_).setCell ⟨gb140, 0, none⟩ (.int .i64 ((rd_T48 l1 x10_4).f0))).setCell ⟨gb140, 1, none⟩ (.int .i64 ((rd_T48 l1 x10_4).f1))).setCell ⟨gb140, 2, none⟩ (.int .i64 ((rd_T48 l1 x10_4).f2))).setCell ⟨gb140, 3, none⟩ (.int .i64 ((rd_T48 l1 x10_4).f3.f0))).setCell ⟨gb140, 4, none⟩ (.int .i64 ((rd_T48 l1 x10_4).f3.f1))).setCell ⟨gb140, 5, none⟩ (.bool ((rd_T48 l1 x10_4).f4)))).cell? _ = some _ from hx142_0)); clear hn142_0; clear hn142_1; clear hn142_2; clear hn142_3; clear hn142_4; clear hn142_5; replace p142 := eq_true p142; replace q142 := eq_true q142; have p143 : 0 ≤ (((rd_T48 l1 x10_4).f1) : Int) := of_decide_eq_true (by first | (with_reducible assumption) | assumption); have q143 : ((rd_T48 l1 x10_4).f1) < (l2.length : Int) := of_decide_eq_true (by first | (with_reducible assumption) | assumption); obtain ⟨ad143, e143, hx143_0⟩ := Kd.at_int HR2.out ((rd_T48 l1 x10_4).f1) p143 q143; obtain rfl : ad142 = ad143 := (by injection e143); have hn143_0 : ad142.block ≠ gb140 := Nat.ne_of_lt (Nat.lt_of_lt_of_le (by have := World.block_lt_of_cell? _ _ hx143_0; first | rwa [add_block] at this | exact this) GW140.out); have hn143_1 : ad142.block ≠ gb140 := Nat.ne_of_lt (Nat.lt_of_lt_of_le (by have := World.block_lt_of_cell? _ _ hx143_0; first | rwa [add_block] at this | exact this) GW140.out); have hn143_2 : ad142.block ≠ gb140 := Nat.ne_of_lt (Nat.lt_of_lt_of_le (by have := World.block_lt_of_cell? _ _ hx143_0; first | rwa [add_block] at this | exact this) GW140.out); have hn143_3 : ad142.block ≠ gb140 := Nat.ne_of_lt (Nat.lt_of_lt_of_le (by have := World.block_lt_of_cell? _ _ hx143_0; first | rwa [add_block] at this | exact this) GW140.out); have hn143_4 : ad142.block ≠ gb140 := Nat.ne_of_lt (Nat.lt_of_lt_of_le (by have := World.block_lt_of_cell? _ _ hx143_0; first | rwa [add_block] at this | exact this) GW140.out); have hn143_5 : ad142.block ≠ gb140 := Nat.ne_of_lt (Nat.lt_of_lt_of_le (by have := World.block_lt_of_cell? _ _ hx143_0; first | rwa [add_block] at this | exact this) GW140.out); replace hx143_0 := (HB.out.cell (World.block_lt_of_cell? w _ hx143_0)).trans hx143_0; replace hx143_0 := (cell_far (p := ⟨gb140, 0, none⟩) (by first | (rw [add_block]; exact hn143_0) | (show (Addr.add _ _).block ≠ _; rw [add_block]; exact hn143_0) | exact hn143_0) (.int .i64 ((rd_T48 l1 x10_4).f0))).trans hx143_0; replace hx143_0 := (cell_far (p := ⟨gb140, 1, none⟩) (by first | (rw [add_block]; exact hn143_1) | (show (Addr.add _ _).block ≠ _; rw [add_block]; exact hn143_1) | exact hn143_1) (.int .i64 ((rd_T48 l1 x10_4).f1))).trans hx143_0; replace hx143_0 := (cell_far (p := ⟨gb140, 2, none⟩) (by first | (rw [add_block]; exact hn143_2) | (show (Addr.add _ _).block ≠ _; rw [add_block]; exact hn143_2) | exact hn143_2) (.int .i64 ((rd_T48 l1 x10_4).f2))).trans hx143_0; replace hx143_0 := (cell_far (p := ⟨gb140, 3, none⟩) (by first | (rw [add_block]; exact hn143_3) | (show (Addr.add _ _).block ≠ _; rw [add_block]; exact hn143_3) | exact hn143_3) (.int .i64 ((rd_T48 l1 x10_4).f3.f0))).trans hx143_0; replace hx143_0 := (cell_far (p := ⟨gb140, 4, none⟩) (by first | (rw [add_block]; exact hn143_4) | (show (Addr.add _ _).block ≠ _; rw [add_block]; exact hn143_4) | exact hn143_4) (.int .i64 ((rd_T48 l1 x10_4).f3.f1))).trans hx143_0; replace hx143_0 := (cell_far (p := ⟨gb140, 5, none⟩) (by first | (rw [add_block]; exact hn143_5) | (show (Addr.add _ _).block ≠ _; rw [add_block]; exact hn143_5) | exact hn143_5) (.bool ((rd_T48 l1 x10_4).f4))).trans hx143_0; (try have hy143_0 := fun (n_ : Nat) => (show ((((((((w43.drewN n_).setCell ⟨gb140, 0, none⟩ (.int .i64 ((rd_T48 l1 x10_4).f0))).setCell ⟨gb140, 1, none⟩ (.int .i64 ((rd_T48 l1 x10_4).f1))).setCell ⟨gb140, 2, none⟩ (.int .i64 ((rd_T48 l1 x10_4).f2))).setCell ⟨gb140, 3, none⟩ (.int .i64 ((rd_T48 l1 x10_4).f3.f0))).setCell ⟨gb140, 4, none⟩ (.int .i64 ((rd_T48 l1 x10_4).f3.f1))).setCell ⟨gb140, 5, none⟩ (.bool ((rd_T48 l1 x10_4).f4)))).cell? _ = some _ from hx143_0)); clear hn143_0; clear hn143_1; clear hn143_2; clear hn143_3; clear hn143_4; clear hn143_5; replace p143 := eq_true p143; replace q143 := eq_true q143)); try go_wp2_with (first | ((with_reducible refine gate_dst (N := 11) rfl ?_); (try (refine gate_guard (by rfl) ?_; dsimp only)); refine box_event ?hg (N := 11) ?hd (cs := #[.int .i64 0, .int .i64 0, .int .i64 0, .int .i64 0, .int .i64 0, .bool false]) (t := 48) ?hr ?_; (case hd => rfl); (case hg => rfl); (case hr => first | (go_simp; done) | (go_simp; rfl)); intro gb140 hg w43 hbox hb; have n0_ := Aside0.mk (Kd.R_below (by (with_reducible repeat (first | apply Kd.R_alloc | apply Kd.R_drewN | apply Kd.R_drew)); exact HO_7.out) hb); have n1_ := Aside0.mk (below_step (by repeat (first | (with_reducible first | exact HB.out | apply below_alloc | apply pw_below_drewN | apply below_drew1) | exact HB.out)) hb); have n2_ := Aside0.mk (hbox); have n3_ := Aside0.mk ((by rw [hg]; exact (below_size (by repeat (first | (with_reducible first | exact HB.out | apply below_alloc | apply pw_below_drewN | apply below_drew1) | exact HB.out))) : w.heap.size ≤ gb140)); have n4_ := Aside0.mk ((by rw [hg]; exact (below_size (by repeat (first | (with_reducible first | exact HB.out | apply below_alloc | apply pw_below_drewN | apply below_drew1) | exact HB.out))) : w.heap.size ≤ gb140)); clear HO_7; clear HB; have HO_7 := n0_; have HB := n1_; have BK140 := n2_; have GW140 := n3_; have GE140 := n4_; clear n0_ n1_ n2_ n3_ n4_; clear hb hbox hg; have hcz44_0 : w43.cell? ⟨gb140, 0, none⟩ = some (.int .i64 0) := (blk_cell BK140.out 0).trans rfl; have hcz44_1 : w43.cell? ⟨gb140, 1, none⟩ = some (.int .i64 0) := (blk_cell BK140.out 1).trans rfl; have hcz44_2 : w43.cell? ⟨gb140, 2, none⟩ = some (.int .i64 0) := (blk_cell BK140.out 2).trans rfl; have hcz44_3 : w43.cell? ⟨gb140, 3, none⟩ = some (.int .i64 0) := (blk_cell BK140.out 3).trans rfl; have hcz44_4 : w43.cell? ⟨gb140, 4, none⟩ = some (.int .i64 0) := (blk_cell BK140.out 4).trans rfl; have hcz44_5 : w43.cell? ⟨gb140, 5, none⟩ = some (.bool false) := (blk_cell BK140.out 5).trans rfl; have hfz44_0 := blk_frozen BK140.out 0; have hfz44_1 := blk_frozen BK140.out 1; have hfz44_2 := blk_frozen BK140.out 2; have hfz44_3 := blk_frozen BK140.out 3; have hfz44_4 := blk_frozen BK140.out 4; have hfz44_5 := blk_frozen BK140.out 5; obtain ⟨Ao45, co45, eo45⟩ := Kd.R_slice HO_7.out; subst eo45; have p141 : 0 ≤ (((rd_T48 l1 x10_4).f0) : Int) := of_decide_eq_true (by first | (with_reducible assumption) | assumption); have q141 : ((rd_T48 l1 x10_4).f0) < (x7_4.length : Int) := of_decide_eq_true (by first | (with_reducible assumption) | assumption); obtain ⟨ad141, e141, hx141_0⟩ := Kd.at_bool (Kd.R_reads' HO_7.out).2.2 ((rd_T48 l1 x10_4).f0) p141 q141; (try rw [← Nbq28.out] at hx141_0); cases e141; have hn141_0 : ad141.block ≠ gb140 := Kd.own_blk (Kd.R_ne HO_7.out BK140.out (by decide)); have hn141_1 : ad141.block ≠ gb140 := Kd.own_blk (Kd.R_ne HO_7.out BK140.out (by decide)); have hn141_2 : ad141.block ≠ gb140 := Kd.own_blk (Kd.R_ne HO_7.out BK140.out (by decide)); have hn141_3 : ad141.block ≠ gb140 := Kd.own_blk (Kd.R_ne HO_7.out BK140.out (by decide)); have hn141_4 : ad141.block ≠ gb140 := Kd.own_blk (Kd.R_ne HO_7.out BK140.out (by decide)); have hn141_5 : ad141.block ≠ gb140 := Kd.own_blk (Kd.R_ne HO_7.out BK140.out (by decide)); replace hx141_0 := (cell_far (p := ⟨gb140, 0, none⟩) (by first | (rw [add_block]; exact hn141_0) | (show (Addr.add _ _).block ≠ _; rw [add_block]; exact hn141_0) | exact hn141_0) (.int .i64 ((rd_T48 l1 x10_4).f0))).trans hx141_0; replace hx141_0 := (cell_far (p := ⟨gb140, 1, none⟩) (by first | (rw [add_block]; exact hn141_1) | (show (Addr.add _ _).block ≠ _; rw [add_block]; exact hn141_1) | exact hn141_1) (.int .i64 ((rd_T48 l1 x10_4).f1))).trans hx141_0; replace hx141_0 := (cell_far (p := ⟨gb140, 2, none⟩) (by first | (rw [add_block]; exact hn141_2) | (show (Addr.add _ _).block ≠ _; rw [add_block]; exact hn141_2) | exact hn141_2) (.int .i64 ((rd_T48 l1 x10_4).f2))).trans hx141_0; replace hx141_0 := (cell_far (p := ⟨gb140, 3, none⟩) (by first | (rw [add_block]; exact hn141_3) | (show (Addr.add _ _).block ≠ _; rw [add_block]; exact hn141_3) | exact hn141_3) (.int .i64 ((rd_T48 l1 x10_4).f3.f0))).trans hx141_0; replace hx141_0 := (cell_far (p := ⟨gb140, 4, none⟩) (by first | (rw [add_block]; exact hn141_4) | (show (Addr.add _ _).block ≠ _; rw [add_block]; exact hn141_4) | exact hn141_4) (.int .i64 ((rd_T48 l1 x10_4).f3.f1))).trans hx141_0; replace hx141_0 := (cell_far (p := ⟨gb140, 5, none⟩) (by first | (rw [add_block]; exact hn141_5) | (show (Addr.add _ _).block ≠ _; rw [add_block]; exact hn141_5) | exact hn141_5) (.bool ((rd_T48 l1 x10_4).f4))).trans hx141_0; (try have hy141_0 := fun (n_ : Nat) => (show ((((((((w43.drewN n_).setCell ⟨gb140, 0, none⟩ (.int .i64 ((rd_T48 l1 x10_4).f0))).setCell ⟨gb140, 1, none⟩ (.int .i64 ((rd_T48 l1 x10_4).f1))).setCell ⟨gb140, 2, none⟩ (.int .i64 ((rd_T48 l1 x10_4).f2))).setCell ⟨gb140, 3, none⟩ (.int .i64 ((rd_T48 l1 x10_4).f3.f0))).setCell ⟨gb140, 4, none⟩ (.int .i64 ((rd_T48 l1 x10_4).f3.f1))).setCell ⟨gb140, 5, none⟩ (.bool ((rd_T48 l1 x10_4).f4)))).cell? _ = some _ from hx141_0)); clear hn141_0; clear hn141_1; clear hn141_2; clear hn141_3; clear hn141_4; clear hn141_5; replace p141 := eq_true p141; replace q141 := eq_true q141; have p142 : 0 ≤ (((rd_T48 l1 x10_4).f0) : Int) := of_decide_eq_true (by first | (with_reducible assumption) | assumption); have q142 : ((rd_T48 l1 x10_4).f0) < (l2.length : Int) := of_decide_eq_true (by first | (with_reducible assumption) | assumption); obtain ⟨ad142, e142, hx142_0⟩ := Kd.at_int HR2.out ((rd_T48 l1 x10_4).f0) p142 q142; cases e142; have hn142_0 : ad142.block ≠ gb140 := Nat.ne_of_lt (Nat.lt_of_lt_of_le (by have := World.block_lt_of_cell? _ _ hx142_0; first | rwa [add_block] at this | exact this) GW140.out); have hn142_1 : ad142.block ≠ gb140 := Nat.ne_of_lt (Nat.lt_of_lt_of_le (by have := World.block_lt_of_cell? _ _ hx142_0; first | rwa [add_block] at this | exact this) GW140.out); have hn142_2 : ad142.block ≠ gb140 := Nat.ne_of_lt (Nat.lt_of_lt_of_le (by have := World.block_lt_of_cell? _ _ hx142_0; first | rwa [add_block] at this | exact this) GW140.out); have hn142_3 : ad142.block ≠ gb140 := Nat.ne_of_lt (Nat.lt_of_lt_of_le (by have := World.block_lt_of_cell? _ _ hx142_0; first | rwa [add_block] at this | exact this) GW140.out); have hn142_4 : ad142.block ≠ gb140 := Nat.ne_of_lt (Nat.lt_of_lt_of_le (by have := World.block_lt_of_cell? _ _ hx142_0; first | rwa [add_block] at this | exact this) GW140.out); have hn142_5 : ad142.block ≠ gb140 := Nat.ne_of_lt (Nat.lt_of_lt_of_le (by have := World.block_lt_of_cell? _ _ hx142_0; first | rwa [add_block] at this | exact this) GW140.out); replace hx142_0 := (HB.out.cell (World.block_lt_of_cell? w _ hx142_0)).trans hx142_0; replace hx142_0 := (cell_far (p := ⟨gb140, 0, none⟩) (by first | (rw [add_block]; exact hn142_0) | (show (Addr.add _ _).block ≠ _; rw [add_block]; exact hn142_0) | exact hn142_0) (.int .i64 ((rd_T48 l1 x10_4).f0))).trans hx142_0; replace hx142_0 := (cell_far (p := ⟨gb140, 1, none⟩) (by first | (rw [add_block]; exact hn142_1) | (show (Addr.add _ _).block ≠ _; rw [add_block]; exact hn142_1) | exact hn142_1) (.int .i64 ((rd_T48 l1 x10_4).f1))).trans hx142_0; replace hx142_0 := (cell_far (p := ⟨gb140, 2, none⟩) (by first | (rw [add_block]; exact hn142_2) | (show (Addr.add _ _).block ≠ _; rw [add_block]; exact hn142_2) | exact hn142_2) (.int .i64 ((rd_T48 l1 x10_4).f2))).trans hx142_0; replace hx142_0 := (cell_far (p := ⟨gb140, 3, none⟩) (by first | (rw [add_block]; exact hn142_3) | (show (Addr.add _ _).block ≠ _; rw [add_block]; exact hn142_3) | exact hn142_3) (.int .i64 ((rd_T48 l1 x10_4).f3.f0))).trans hx142_0; replace hx142_0 := (cell_far (p := ⟨gb140, 4, none⟩) (by first | (rw [add_block]; exact hn142_4) | (show (Addr.add _ _).block ≠ _; rw [add_block]; exact hn142_4) | exact hn142_4) (.int .i64 ((rd_T48 l1 x10_4).f3.f1))).trans hx142_0; replace hx142_0 := (cell_far (p := ⟨gb140, 5, none⟩) (by first | (rw [add_block]; exact hn142_5) | (show (Addr.add _ _).block ≠ _; rw [add_block]; exact hn142_5) | exact hn142_5) (.bool ((rd_T48 l1 x10_4).f4))).trans hx142_0; (try have hy142_0 := fun (n_ : Nat) => (show ((((((((w43.drewN n_).setCell ⟨gb140, 0, none⟩ (.int .i64 ((rd_T48 l1 x10_4).f0))).setCell ⟨gb140, 1, none⟩ (.int .i64 ((rd_T48 l1 x10_4).f1))).setCell ⟨gb140, 2, none⟩ (.int .i64 ((rd_T48 l1 x10_4).f2))).setCell ⟨gb140, 3, none⟩ (.int .i64 ((rd_T48 l1 x10_4).f3.f0))).setCell ⟨gb140, 4, none⟩ (.int .i64 ((rd_T48 l1 x10_4).f3.f1))).setCell ⟨gb140, 5, none⟩ (.bool ((rd_T48 l1 x10_4).f4)))).cell? _ = some _ from hx142_0)); clear hn142_0; clear hn142_1; clear hn142_2; clear hn142_3; clear hn142_4; clear hn142_5; replace p142 := eq_true p142; replace q142 := eq_true q142; have p143 : 0 ≤ (((rd_T48 l1 x10_4).f1) : Int) := of_decide_eq_true (by first | (with_reducible assumption) | assumption); have q143 : ((rd_T48 l1 x10_4).f1) < (l2.length : Int) := of_decide_eq_true (by first | (with_reducible assumption) | assumption); obtain ⟨ad143, e143, hx143_0⟩ := Kd.at_int HR2.out ((rd_T48 l1 x10_4).f1) p143 q143; obtain rfl : ad142 = ad143 := (by injection e143); have hn143_0 : ad142.block ≠ gb140 := Nat.ne_of_lt (Nat.lt_of_lt_of_le (by have := World.block_lt_of_cell? _ _ hx143_0; first | rwa [add_block] at this | exact this) GW140.out); have hn143_1 : ad142.block ≠ gb140 := Nat.ne_of_lt (Nat.lt_of_lt_of_le (by have := World.block_lt_of_cell? _ _ hx143_0; first | rwa [add_block] at this | exact this) GW140.out); have hn143_2 : ad142.block ≠ gb140 := Nat.ne_of_lt (Nat.lt_of_lt_of_le (by have := World.block_lt_of_cell? _ _ hx143_0; first | rwa [add_block] at this | exact this) GW140.out); have hn143_3 : ad142.block ≠ gb140 := Nat.ne_of_lt (Nat.lt_of_lt_of_le (by have := World.block_lt_of_cell? _ _ hx143_0; first | rwa [add_block] at this | exact this) GW140.out); have hn143_4 : ad142.block ≠ gb140 := Nat.ne_of_lt (Nat.lt_of_lt_of_le (by have := World.block_lt_of_cell? _ _ hx143_0; first | rwa [add_block] at this | exact this) GW140.out); have hn143_5 : ad142.block ≠ gb140 := Nat.ne_of_lt (Nat.lt_of_lt_of_le (by have := World.block_lt_of_cell? _ _ hx143_0; first | rwa [add_block] at this | exact this) GW140.out); replace hx143_0 := (HB.out.cell (World.block_lt_of_cell? w _ hx143_0)).trans hx143_0; replace hx143_0 := (cell_far (p := ⟨gb140, 0, none⟩) (by first | (rw [add_block]; exact hn143_0) | (show (Addr.add _ _).block ≠ _; rw [add_block]; exact hn143_0) | exact hn143_0) (.int .i64 ((rd_T48 l1 x10_4).f0))).trans hx143_0; replace hx143_0 := (cell_far (p := ⟨gb140, 1, none⟩) (by first | (rw [add_block]; exact hn143_1) | (show (Addr.add _ _).block ≠ _; rw [add_block]; exact hn143_1) | exact hn143_1) (.int .i64 ((rd_T48 l1 x10_4).f1))).trans hx143_0; replace hx143_0 := (cell_far (p := ⟨gb140, 2, none⟩) (by first | (rw [add_block]; exact hn143_2) | (show (Addr.add _ _).block ≠ _; rw [add_block]; exact hn143_2) | exact hn143_2) (.int .i64 ((rd_T48 l1 x10_4).f2))).trans hx143_0; replace hx143_0 := (cell_far (p := ⟨gb140, 3, none⟩) (by first | (rw [add_block]; exact hn143_3) | (show (Addr.add _ _).block ≠ _; rw [add_block]; exact hn143_3) | exact hn143_3) (.int .i64 ((rd_T48 l1 x10_4).f3.f0))).trans hx143_0; replace hx143_0 := (cell_far (p := ⟨gb140, 4, none⟩) (by first | (rw [add_block]; exact hn143_4) | (show (Addr.add _ _).block ≠ _; rw [add_block]; exact hn143_4) | exact hn143_4) (.int .i64 ((rd_T48 l1 x10_4).f3.f1))).trans hx143_0; replace hx143_0 := (cell_far (p := ⟨gb140, 5, none⟩) (by first | (rw [add_block]; exact hn143_5) | (show (Addr.add _ _).block ≠ _; rw [add_block]; exact hn143_5) | exact hn143_5) (.bool ((rd_T48 l1 x10_4).f4))).trans hx143_0; (try have hy143_0 := fun (n_ : Nat) => (show ((((((((w43.drewN n_).setCell ⟨gb140, 0, none⟩ (.int .i64 ((rd_T48 l1 x10_4).f0))).setCell ⟨gb140, 1, none⟩ (.int .i64 ((rd_T48 l1 x10_4).f1))).setCell ⟨gb140, 2, none⟩ (.int .i64 ((rd_T48 l1 x10_4).f2))).setCell ⟨gb140, 3, none⟩ (.int .i64 ((rd_T48 l1 x10_4).f3.f0))).setCell ⟨gb140, 4, none⟩ (.int .i64 ((rd_T48 l1 x10_4).f3.f1))).setCell ⟨gb140, 5, none⟩ (.bool ((rd_T48 l1 x10_4).f4)))).cell? _ = some _ from hx143_0)); clear hn143_0; clear hn143_1; clear hn143_2; clear hn143_3; clear hn143_4; clear hn143_5; replace p143 := eq_true p143; replace q143 := eq_true q143)))
                                          go_roundg k4
                                          case measure => have := HJ3.out; have := HK2.out; have := HK3.out; have := HK4.out; omega
                                          case rel => exact ⟨(x7_4), (wrap64 (x10_4 + 1)), (by first | rfl | (simp; done) | (simp [*]; done)), H', ⟨by have := HJ3.out; have := HK2.out; have := HK3.out; have := HK4.out; omega⟩, ⟨by (with_reducible repeat (first | apply Kd.R_alloc | apply Kd.R_drewN | apply Kd.R_drew)); exact Kd.R_mono (Kd.R_far (p := ⟨gb140, 5, none⟩) (Kd.R_far (p := ⟨gb140, 4, none⟩) (Kd.R_far (p := ⟨gb140, 3, none⟩) (Kd.R_far (p := ⟨gb140, 2, none⟩) (Kd.R_far (p := ⟨gb140, 1, none⟩) (Kd.R_far (p := ⟨gb140, 0, none⟩) (Kd.R_types HO_7.out BK140.out (by decide)) (fun _ hk => hk.2) (.int .i64 ((rd_T48 l1 x10_4).f0))) (fun _ hk => hk.2) (.int .i64 ((rd_T48 l1 x10_4).f1))) (fun _ hk => hk.2) (.int .i64 ((rd_T48 l1 x10_4).f2))) (fun _ hk => hk.2) (.int .i64 ((rd_T48 l1 x10_4).f3.f0))) (fun _ hk => hk.2) (.int .i64 ((rd_T48 l1 x10_4).f3.f1))) (fun _ hk => hk.2) (.bool ((rd_T48 l1 x10_4).f4))) (fun _ hk => trivial)⟩, ⟨by repeat (first | (with_reducible first | exact HB.out | apply below_alloc | apply pw_below_drewN | apply below_drew1 | refine below_set ?_ GE140.out) | exact HB.out)⟩⟩
                                      · rw [if_neg c32] at H
                                        exact absurd H (by simp)
                                    · rw [if_neg c31] at H
                                      exact absurd H (by simp)
                                  · rw [if_neg c30] at H
                                    exact absurd H (by simp)
                                · replace c29 := Bool.eq_false_iff.mpr c29
                                  subst c29
                                  have H1 : (merkhetref17_Offsets.l2 k4 a0 l1 l2 x7_4 x9_3 (wrap64 (x10_4 + 1))) = some r := by rw [if_neg (show ¬ (false = true) by decide)] at H; exact H
                                  clear H
                                  have H := H1
                                  clear H1
                                  have H' := Aside0.mk H
                                  clear H
                                  have p139 : 0 ≤ (x10_4 : Int) := of_decide_eq_true (by first | (with_reducible assumption) | assumption)
                                  have q139 : x10_4 < (l1.length : Int) := of_decide_eq_true (by first | (with_reducible assumption) | assumption)
                                  obtain ⟨ad139, e139, hx139_0, hx139_1, hx139_2, hx139_3, hx139_4, hx139_5⟩ := at_T48 HR1.out x10_4 p139 q139
                                  (try rw [← Nbq28.out] at hx139_5)
                                  cases e139
                                  replace hx139_0 := (HB.out.cell (World.block_lt_of_cell? w _ hx139_0)).trans hx139_0
                                  replace hx139_1 := (HB.out.cell (World.block_lt_of_cell? w _ hx139_1)).trans hx139_1
                                  replace hx139_2 := (HB.out.cell (World.block_lt_of_cell? w _ hx139_2)).trans hx139_2
                                  replace hx139_3 := (HB.out.cell (World.block_lt_of_cell? w _ hx139_3)).trans hx139_3
                                  replace hx139_4 := (HB.out.cell (World.block_lt_of_cell? w _ hx139_4)).trans hx139_4
                                  replace hx139_5 := (HB.out.cell (World.block_lt_of_cell? w _ hx139_5)).trans hx139_5
                                  replace p139 := eq_true p139
                                  replace q139 := eq_true q139
                                  go_wp2_with (first | ((with_reducible refine gate_dst (N := 11) rfl ?_); (try (refine gate_guard (by rfl) ?_; dsimp only)); refine box_event ?hg (N := 11) ?hd (cs := #[.int .i64 0, .int .i64 0, .int .i64 0, .int .i64 0, .int .i64 0, .bool false]) (t := 48) ?hr ?_; (case hd => rfl); (case hg => rfl); (case hr => first | (go_simp; done) | (go_simp; rfl)); intro gb140 hg w46 hbox hb; have n0_ := Aside0.mk (Kd.R_below (by (with_reducible repeat (first | apply Kd.R_alloc | apply Kd.R_drewN | apply Kd.R_drew)); exact HO_7.out) hb); have n1_ := Aside0.mk (below_step (by repeat (first | (with_reducible first | exact HB.out | apply below_alloc | apply pw_below_drewN | apply below_drew1) | exact HB.out)) hb); have n2_ := Aside0.mk (hbox); have n3_ := Aside0.mk ((by rw [hg]; exact (below_size (by repeat (first | (with_reducible first | exact HB.out | apply below_alloc | apply pw_below_drewN | apply below_drew1) | exact HB.out))) : w.heap.size ≤ gb140)); have n4_ := Aside0.mk ((by rw [hg]; exact (below_size (by repeat (first | (with_reducible first | exact HB.out | apply below_alloc | apply pw_below_drewN | apply below_drew1) | exact HB.out))) : w.heap.size ≤ gb140)); clear HO_7; clear HB; have HO_7 := n0_; have HB := n1_; have BK140 := n2_; have GW140 := n3_; have GE140 := n4_; clear n0_ n1_ n2_ n3_ n4_; clear hb hbox hg; have hcz47_0 : w46.cell? ⟨gb140, 0, none⟩ = some (.int .i64 0) := (blk_cell BK140.out 0).trans rfl; have hcz47_1 : w46.cell? ⟨gb140, 1, none⟩ = some (.int .i64 0) := (blk_cell BK140.out 1).trans rfl; have hcz47_2 : w46.cell? ⟨gb140, 2, none⟩ = some (.int .i64 0) := (blk_cell BK140.out 2).trans rfl; have hcz47_3 : w46.cell? ⟨gb140, 3, none⟩ = some (.int .i64 0) := (blk_cell BK140.out 3).trans rfl; have hcz47_4 : w46.cell? ⟨gb140, 4, none⟩ = some (.int .i64 0) := (blk_cell BK140.out 4).trans rfl; have hcz47_5 : w46.cell? ⟨gb140, 5, none⟩ = some (.bool false) := (blk_cell BK140.out 5).trans rfl; have hfz47_0 := blk_frozen BK140.out 0; have hfz47_1 := blk_frozen BK140.out 1; have hfz47_2 := blk_frozen BK140.out 2; have hfz47_3 := blk_frozen BK140.out 3; have hfz47_4 := blk_frozen BK140.out 4; have hfz47_5 := blk_frozen BK140.out 5; obtain ⟨Ao48, co48, eo48⟩ := Kd.R_slice HO_7.out; subst eo48; have p141 : 0 ≤ (((rd_T48 l1 x10_4).f0) : Int) := of_decide_eq_true (by first | (with_reducible assumption) | assumption); have q141 : ((rd_T48 l1 x10_4).f0) < (x7_4.length : Int) := of_decide_eq_true (by first | (with_reducible assumption) | assumption); obtain ⟨ad141, e141, hx141_0⟩ := Kd.at_bool (Kd.R_reads' HO_7.out).2.2 ((rd_T48 l1 x10_4).f0) p141 q141; (try rw [← Nbq28.out] at hx141_0); cases e141; have hn141_0 : ad141.block ≠ gb140 := Kd.own_blk (Kd.R_ne HO_7.out BK140.out (by decide)); have hn141_1 : ad141.block ≠ gb140 := Kd.own_blk (Kd.R_ne HO_7.out BK140.out (by decide)); have hn141_2 : ad141.block ≠ gb140 := Kd.own_blk (Kd.R_ne HO_7.out BK140.out (by decide)); have hn141_3 : ad141.block ≠ gb140 := Kd.own_blk (Kd.R_ne HO_7.out BK140.out (by decide)); have hn141_4 : ad141.block ≠ gb140 := Kd.own_blk (Kd.R_ne HO_7.out BK140.out (by decide)); have hn141_5 : ad141.block ≠ gb140 := Kd.own_blk (Kd.R_ne HO_7.out BK140.out (by decide)); replace hx141_0 := (cell_far (p := ⟨gb140, 0, none⟩) (by first | (rw [add_block]; exact hn141_0) | (show (Addr.add _ _).block ≠ _; rw [add_block]; exact hn141_0) | exact hn141_0) (.int .i64 ((rd_T48 l1 x10_4).f0))).trans hx141_0; replace hx141_0 := (cell_far (p := ⟨gb140, 1, none⟩) (by first | (rw [add_block]; exact hn141_1) | (show (Addr.add _ _).block ≠ _; rw [add_block]; exact hn141_1) | exact hn141_1) (.int .i64 ((rd_T48 l1 x10_4).f1))).trans hx141_0; replace hx141_0 := (cell_far (p := ⟨gb140, 2, none⟩) (by first | (rw [add_block]; exact hn141_2) | (show (Addr.add _ _).block ≠ _; rw [add_block]; exact hn141_2) | exact hn141_2) (.int .i64 ((rd_T48 l1 x10_4).f2))).trans hx141_0; replace hx141_0 := (cell_far (p := ⟨gb140, 3, none⟩) (by first | (rw [add_block]; exact hn141_3) | (show (Addr.add _ _).block ≠ _; rw [add_block]; exact hn141_3) | exact hn141_3) (.int .i64 ((rd_T48 l1 x10_4).f3.f0))).trans hx141_0; replace hx141_0 := (cell_far (p := ⟨gb140, 4, none⟩) (by first | (rw [add_block]; exact hn141_4) | (show (Addr.add _ _).block ≠ _; rw [add_block]; exact hn141_4) | exact hn141_4) (.int .i64 ((rd_T48 l1 x10_4).f3.f1))).trans hx141_0; replace hx141_0 := (cell_far (p := ⟨gb140, 5, none⟩) (by first | (rw [add_block]; exact hn141_5) | (show (Addr.add _ _).block ≠ _; rw [add_block]; exact hn141_5) | exact hn141_5) (.bool ((rd_T48 l1 x10_4).f4))).trans hx141_0; (try have hy141_0 := fun (n_ : Nat) => (show ((((((((w46.drewN n_).setCell ⟨gb140, 0, none⟩ (.int .i64 ((rd_T48 l1 x10_4).f0))).setCell ⟨gb140, 1, none⟩ (.int .i64 ((rd_T48 l1 x10_4).f1))).setCell ⟨gb140, 2, none⟩ (.int .i64 ((rd_T48 l1 x10_4).f2))).setCell ⟨gb140, 3, none⟩ (.int .i64 ((rd_T48 l1 x10_4).f3.f0))).setCell ⟨gb140, 4, none⟩ (.int .i64 ((rd_T48 l1 x10_4).f3.f1))).setCell ⟨gb140, 5, none⟩ (.bool ((rd_T48 l1 x10_4).f4)))).cell? _ = some _ from hx141_0)); clear hn141_0; clear hn141_1; clear hn141_2; clear hn141_3; clear hn141_4; clear hn141_5; replace p141 := eq_true p141; replace q141 := eq_true q141))
                                  repeat (go_quiet (first | ((with_reducible refine gate_dst (N := 11) rfl ?_); (try (refine gate_guard (by rfl) ?_; dsimp only)); refine box_event ?hg (N := 11) ?hd (cs := #[.int .i64 0, .int .i64 0, .int .i64 0, .int .i64 0, .int .i64 0, .bool false]) (t := 48) ?hr ?_; (case hd => rfl); (case hg => rfl); (case hr => first | (go_simp; done) | (go_simp; rfl)); intro gb140 hg w46 hbox hb; have n0_ := Aside0.mk (Kd.R_below (by (with_reducible repeat (first | apply Kd.R_alloc | apply Kd.R_drewN | apply Kd.R_drew)); exact HO_7.out) hb); have n1_ := Aside0.mk (below_step (by repeat (first | (with_reducible first | exact HB.out | apply below_alloc | apply pw_below_drewN | apply below_drew1) | exact HB.out)) hb); have n2_ := Aside0.mk (hbox); have n3_ := Aside0.mk ((by rw [hg]; exact (below_size (by repeat (first | (with_reducible first | exact HB.out | apply below_alloc | apply pw_below_drewN | apply below_drew1) | exact HB.out))) : w.heap.size ≤ gb140)); have n4_ := Aside0.mk ((by rw [hg]; exact (below_size (by repeat (first | (with_reducible first | exact HB.out | apply below_alloc | apply pw_below_drewN | apply below_drew1) | exact HB.out))) : w.heap.size ≤ gb140)); clear HO_7; clear HB; have HO_7 := n0_; have HB := n1_; have BK140 := n2_; have GW140 := n3_; have GE140 := n4_; clear n0_ n1_ n2_ n3_ n4_; clear hb hbox hg; have hcz47_0 : w46.cell? ⟨gb140, 0, none⟩ = some (.int .i64 0) := (blk_cell BK140.out 0).trans rfl; have hcz47_1 : w46.cell? ⟨gb140, 1, none⟩ = some (.int .i64 0) := (blk_cell BK140.out 1).trans rfl; have hcz47_2 : w46.cell? ⟨gb140, 2, none⟩ = some (.int .i64 0) := (blk_cell BK140.out 2).trans rfl; have hcz47_3 : w46.cell? ⟨gb140, 3, none⟩ = some (.int .i64 0) := (blk_cell BK140.out 3).trans rfl; have hcz47_4 : w46.cell? ⟨gb140, 4, none⟩ = some (.int .i64 0) := (blk_cell BK140.out 4).trans rfl; have hcz47_5 : w46.cell? ⟨gb140, 5, none⟩ = some (.bool false) := (blk_cell BK140.out 5).trans rfl; have hfz47_0 := blk_frozen BK140.out 0; have hfz47_1 := blk_frozen BK140.out 1; have hfz47_2 := blk_frozen BK140.out 2; have hfz47_3 := blk_frozen BK140.out 3; have hfz47_4 := blk_frozen BK140.out 4; have hfz47_5 := blk_frozen BK140.out 5; obtain ⟨Ao48, co48, eo48⟩ := Kd.R_slice HO_7.out; subst eo48; have p141 : 0 ≤ (((rd_T48 l1 x10_4).f0) : Int) := of_decide_eq_true (by first | (with_reducible assumption) | assumption); have q141 : ((rd_T48 l1 x10_4).f0) < (x7_4.length : Int) := of_decide_eq_true (by first | (with_reducible assumption) | assumption); obtain ⟨ad141, e141, hx141_0⟩ := Kd.at_bool (Kd.R_reads' HO_7.out).2.2 ((rd_T48 l1 x10_4).f0) p141 q141; (try rw [← Nbq28.out] at hx141_0); cases e141; have hn141_0 : ad141.block ≠ gb140 := Kd.own_blk (Kd.R_ne HO_7.out BK140.out (by decide)); have hn141_1 : ad141.block ≠ gb140 := Kd.own_blk (Kd.R_ne HO_7.out BK140.out (by decide)); have hn141_2 : ad141.block ≠ gb140 := Kd.own_blk (Kd.R_ne HO_7.out BK140.out (by decide)); have hn141_3 : ad141.block ≠ gb140 := Kd.own_blk (Kd.R_ne HO_7.out BK140.out (by decide)); have hn141_4 : ad141.block ≠ gb140 := Kd.own_blk (Kd.R_ne HO_7.out BK140.out (by decide)); have hn141_5 : ad141.block ≠ gb140 := Kd.own_blk (Kd.R_ne HO_7.out BK140.out (by decide)); replace hx141_0 := (cell_far (p := ⟨gb140, 0, none⟩) (by first | (rw [add_block]; exact hn141_0) | (show (Addr.add _ _).block ≠ _; rw [add_block]; exact hn141_0) | exact hn141_0) (.int .i64 ((rd_T48 l1 x10_4).f0))).trans hx141_0; replace hx141_0 := (cell_far (p := ⟨gb140, 1, none⟩) (by first | (rw [add_block]; exact hn141_1) | (show (Addr.add _ _).block ≠ _; rw [add_block]; exact hn141_1) | exact hn141_1) (.int .i64 ((rd_T48 l1 x10_4).f1))).trans hx141_0; replace hx141_0 := (cell_far (p := ⟨gb140, 2, none⟩) (by first | (rw [add_block]; exact hn141_2) | (show (Addr.add _ _).block ≠ _; rw [add_block]; exact hn141_2) | exact hn141_2) (.int .i64 ((rd_T48 l1 x10_4).f2))).trans hx141_0; replace hx141_0 := (cell_far (p := ⟨gb140, 3, none⟩) (by first | (rw [add_block]; exact hn141_3) | (show (Addr.add _ _).block ≠ _; rw [add_block]; exact hn141_3) | exact hn141_3) (.int .i64 ((rd_T48 l1 x10_4).f3.f0))).trans hx141_0; replace hx141_0 := (cell_far (p := ⟨gb140, 4, none⟩) (by first | (rw [add_block]; exact hn141_4) | (show (Addr.add _ _).block ≠ _; rw [add_block]; exact hn141_4) | exact hn141_4) (.int .i64 ((rd_T48 l1 x10_4).f3.f1))).trans hx141_0; replace hx141_0 := (cell_far (p := ⟨gb140, 5, none⟩) (by first | (rw [add_block]; exact hn141_5) | (show (Addr.add _ _).block ≠ _; rw [add_block]; exact hn141_5) | exact hn141_5) (.bool ((rd_T48 l1 x10_4).f4))).trans hx141_0; (try have hy141_0 := fun (n_ : Nat) => (show ((((((((w46.drewN n_).setCell ⟨gb140, 0, none⟩ (.int .i64 ((rd_T48 l1 x10_4).f0))).setCell ⟨gb140, 1, none⟩ (.int .i64 ((rd_T48 l1 x10_4).f1))).setCell ⟨gb140, 2, none⟩ (.int .i64 ((rd_T48 l1 x10_4).f2))).setCell ⟨gb140, 3, none⟩ (.int .i64 ((rd_T48 l1 x10_4).f3.f0))).setCell ⟨gb140, 4, none⟩ (.int .i64 ((rd_T48 l1 x10_4).f3.f1))).setCell ⟨gb140, 5, none⟩ (.bool ((rd_T48 l1 x10_4).f4)))).cell? _ = some _ from hx141_0)); clear hn141_0; clear hn141_1; clear hn141_2; clear hn141_3; clear hn141_4; clear hn141_5; replace p141 := eq_true p141; replace q141 := eq_true q141)); try go_wp2_with (first | ((with_reducible refine gate_dst (N := 11) rfl ?_); (try (refine gate_guard (by rfl) ?_; dsimp only)); refine box_event ?hg (N := 11) ?hd (cs := #[.int .i64 0, .int .i64 0, .int .i64 0, .int .i64 0, .int .i64 0, .bool false]) (t := 48) ?hr ?_; (case hd => rfl); (case hg => rfl); (case hr => first | (go_simp; done) | (go_simp; rfl)); intro gb140 hg w46 hbox hb; have n0_ := Aside0.mk (Kd.R_below (by (with_reducible repeat (first | apply Kd.R_alloc | apply Kd.R_drewN | apply Kd.R_drew)); exact HO_7.out) hb); have n1_ := Aside0.mk (below_step (by repeat (first | (with_reducible first | exact HB.out | apply below_alloc | apply pw_below_drewN | apply below_drew1) | exact HB.out)) hb); have n2_ := Aside0.mk (hbox); have n3_ := Aside0.mk ((by rw [hg]; exact (below_size (by repeat (first | (with_reducible first | exact HB.out | apply below_alloc | apply pw_below_drewN | apply below_drew1) | exact HB.out))) : w.heap.size ≤ gb140)); have n4_ := Aside0.mk ((by rw [hg]; exact (below_size (by repeat (first | (with_reducible first | exact HB.out | apply below_alloc | apply pw_below_drewN | apply below_drew1) | exact HB.out))) : w.heap.size ≤ gb140)); clear HO_7; clear HB; have HO_7 := n0_; have HB := n1_; have BK140 := n2_; have GW140 := n3_; have GE140 := n4_; clear n0_ n1_ n2_ n3_ n4_; clear hb hbox hg; have hcz47_0 : w46.cell? ⟨gb140, 0, none⟩ = some (.int .i64 0) := (blk_cell BK140.out 0).trans rfl; have hcz47_1 : w46.cell? ⟨gb140, 1, none⟩ = some (.int .i64 0) := (blk_cell BK140.out 1).trans rfl; have hcz47_2 : w46.cell? ⟨gb140, 2, none⟩ = some (.int .i64 0) := (blk_cell BK140.out 2).trans rfl; have hcz47_3 : w46.cell? ⟨gb140, 3, none⟩ = some (.int .i64 0) := (blk_cell BK140.out 3).trans rfl; have hcz47_4 : w46.cell? ⟨gb140, 4, none⟩ = some (.int .i64 0) := (blk_cell BK140.out 4).trans rfl; have hcz47_5 : w46.cell? ⟨gb140, 5, none⟩ = some (.bool false) := (blk_cell BK140.out 5).trans rfl; have hfz47_0 := blk_frozen BK140.out 0; have hfz47_1 := blk_frozen BK140.out 1; have hfz47_2 := blk_frozen BK140.out 2; have hfz47_3 := blk_frozen BK140.out 3; have hfz47_4 := blk_frozen BK140.out 4; have hfz47_5 := blk_frozen BK140.out 5; obtain ⟨Ao48, co48, eo48⟩ := Kd.R_slice HO_7.out; subst eo48; have p141 : 0 ≤ (((rd_T48 l1 x10_4).f0) : Int) := of_decide_eq_true (by first | (with_reducible assumption) | assumption); have q141 : ((rd_T48 l1 x10_4).f0) < (x7_4.length : Int) := of_decide_eq_true (by first | (with_reducible assumption) | assumption); obtain ⟨ad141, e141, hx141_0⟩ := Kd.at_bool (Kd.R_reads' HO_7.out).2.2 ((rd_T48 l1 x10_4).f0) p141 q141; (try rw [← Nbq28.out] at hx141_0); cases e141; have hn141_0 : ad141.block ≠ gb140 := Kd.own_blk (Kd.R_ne HO_7.out BK140.out (by decide)); have hn141_1 : ad141.block ≠ gb140 := Kd.own_blk (Kd.R_ne HO_7.out BK140.out (by decide)); have hn141_2 : ad141.block ≠ gb140 := Kd.own_blk (Kd.R_ne HO_7.out BK140.out (by decide)); have hn141_3 : ad141.block ≠ gb140 := Kd.own_blk (Kd.R_ne HO_7.out BK140.out (by decide)); have hn141_4 : ad141.block ≠ gb140 := Kd.own_blk (Kd.R_ne HO_7.out BK140.out (by decide)); have hn141_5 : ad141.block ≠ gb140 := Kd.own_blk (Kd.R_ne HO_7.out BK140.out (by decide)); replace hx141_0 := (cell_far (p := ⟨gb140, 0, none⟩) (by first | (rw [add_block]; exact hn141_0) | (show (Addr.add _ _).block ≠ _; rw [add_block]; exact hn141_0) | exact hn141_0) (.int .i64 ((rd_T48 l1 x10_4).f0))).trans hx141_0; replace hx141_0 := (cell_far (p := ⟨gb140, 1, none⟩) (by first | (rw [add_block]; exact hn141_1) | (show (Addr.add _ _).block ≠ _; rw [add_block]; exact hn141_1) | exact hn141_1) (.int .i64 ((rd_T48 l1 x10_4).f1))).trans hx141_0; replace hx141_0 := (cell_far (p := ⟨gb140, 2, none⟩) (by first | (rw [add_block]; exact hn141_2) | (show (Addr.add _ _).block ≠ _; rw [add_block]; exact hn141_2) | exact hn141_2) (.int .i64 ((rd_T48 l1 x10_4).f2))).trans hx141_0; replace hx141_0 := (cell_far (p := ⟨gb140, 3, none⟩) (by first | (rw [add_block]; exact hn141_3) | (show (Addr.add _ _).block ≠ _; rw [add_block]; exact hn141_3) | exact hn141_3) (.int .i64 ((rd_T48 l1 x10_4).f3.f0))).trans hx141_0; replace hx141_0 := (cell_far (p := ⟨gb140, 4, none⟩) (by first | (rw [add_block]; exact hn141_4) | (show (Addr.add _ _).block ≠ _; rw [add_block]; exact hn141_4) | exact hn141_4) (.int .i64 ((rd_T48 l1 x10_4).f3.f1))).trans hx141_0; replace hx141_0 := (cell_far (p := ⟨gb140, 5, none⟩) (by first | (rw [add_block]; exact hn141_5) | (show (Addr.add _ _).block ≠ _; rw [add_block]; exact hn141_5) | exact hn141_5) (.bool ((rd_T48 l1 x10_4).f4))).trans hx141_0; (try have hy141_0 := fun (n_ : Nat) => (show ((((((((w46.drewN n_).setCell ⟨gb140, 0, none⟩ (.int .i64 ((rd_T48 l1 x10_4).f0))).setCell ⟨gb140, 1, none⟩ (.int .i64 ((rd_T48 l1 x10_4).f1))).setCell ⟨gb140, 2, none⟩ (.int .i64 ((rd_T48 l1 x10_4).f2))).setCell ⟨gb140, 3, none⟩ (.int .i64 ((rd_T48 l1 x10_4).f3.f0))).setCell ⟨gb140, 4, none⟩ (.int .i64 ((rd_T48 l1 x10_4).f3.f1))).setCell ⟨gb140, 5, none⟩ (.bool ((rd_T48 l1 x10_4).f4)))).cell? _ = some _ from hx141_0)); clear hn141_0; clear hn141_1; clear hn141_2; clear hn141_3; clear hn141_4; clear hn141_5; replace p141 := eq_true p141; replace q141 := eq_true q141)))
                                  go_roundg k4
                                  case measure => have := HJ3.out; have := HK2.out; have := HK3.out; have := HK4.out; omega
                                  case rel => exact ⟨(x7_4), (wrap64 (x10_4 + 1)), (by first | rfl | (simp; done) | (simp [*]; done)), H', ⟨by have := HJ3.out; have := HK2.out; have := HK3.out; have := HK4.out; omega⟩, ⟨by (with_reducible repeat (first | apply Kd.R_alloc | apply Kd.R_drewN | apply Kd.R_drew)); exact Kd.R_mono (Kd.R_far (p := ⟨gb140, 5, none⟩) (Kd.R_far (p := ⟨gb140, 4, none⟩) (Kd.R_far (p := ⟨gb140, 3, none⟩) (Kd.R_far (p := ⟨gb140, 2, none⟩) (Kd.R_far (p := ⟨gb140, 1, none⟩) (Kd.R_far (p := ⟨gb140, 0, none⟩) (Kd.R_types HO_7.out BK140.out (by decide)) (fun _ hk => hk.2) (.int .i64 ((rd_T48 l1 x10_4).f0))) (fun _ hk => hk.2) (.int .i64 ((rd_T48 l1 x10_4).f1))) (fun _ hk => hk.2) (.int .i64 ((rd_T48 l1 x10_4).f2))) (fun _ hk => hk.2) (.int .i64 ((rd_T48 l1 x10_4).f3.f0))) (fun _ hk => hk.2) (.int .i64 ((rd_T48 l1 x10_4).f3.f1))) (fun _ hk => hk.2) (.bool ((rd_T48 l1 x10_4).f4))) (fun _ hk => trivial)⟩, ⟨by repeat (first | (with_reducible first | exact HB.out | apply below_alloc | apply pw_below_drewN | apply below_drew1 | refine below_set ?_ GE140.out) | exact HB.out)⟩⟩
                              · rw [if_neg c27] at H
                                exact absurd H (by simp)
                            · rw [if_neg c26] at H
                              exact absurd H (by simp)
                          · rw [if_neg c25] at H
                            exact absurd H (by simp)
                        · rw [if_neg c24] at H
                          have c24b0 : decide (x10_4 < (l1.length : Int)) = false := decide_eq_false c24
                          clear c24
                          have H' := Aside0.mk H
                          clear H
                          go_wp2
                          repeat (go_quiet (fail); try go_wp2)
                          go_roundg k4
                          case measure => have := HJ3.out; have := HK2.out; have := HK3.out; have := HK4.out; omega
                          case rel => exact ⟨(x7_4), (wrap64 (x9_3 + 1)), (by first | rfl | (simp; done) | (simp [*]; done)), H', ⟨by have := HJ3.out; have := HK2.out; have := HK3.out; have := HK4.out; omega⟩, ⟨by (with_reducible repeat (first | apply Kd.R_alloc | apply Kd.R_drewN | apply Kd.R_drew)); exact HO_7.out⟩, ⟨by repeat (first | (with_reducible first | exact HB.out | apply below_alloc | apply pw_below_drewN | apply below_drew1) | exact HB.out)⟩⟩
                  · rw [if_neg c23] at H
                    have c23b0 : decide (x9_3 < a0) = false := decide_eq_false c23
                    clear c23
                    have H' := Aside0.mk H
                    clear H
                    go_wp2
                    repeat (go_quiet (fail); try go_wp2)
                    go_loopg [12] k3 (fun kq v12 w' => ∃ (x12_4 : Int), v12 = .int .i64 x12_4 ∧ Aside0 (merkhetref17_Offsets.l3 kq a0 x7_3 x12_4 = some r) ∧ Aside0 (kq ≤ k3) ∧ Aside0 (Kd.R Kd.bool 4 w' w.heap.size (fun _ => True) u7 x7_3) ∧ Aside0 (Below w.heap.size w w'))
                    case atStart => exact ⟨(0), (by first | rfl | (simp; done) | (simp [*]; done)), H', ⟨Nat.le_refl _⟩, ⟨by (with_reducible repeat (first | apply Kd.R_alloc | apply Kd.R_drewN | apply Kd.R_drew)); exact HO_7.out⟩, ⟨by repeat (first | (with_reducible first | exact HB.out | apply below_alloc | apply pw_below_drewN | apply below_drew1) | exact HB.out)⟩⟩
                    case round =>
                      clear H'
                      try clear c1
                      try clear p1
                      try clear q1
                      try clear hx1
                      try clear c2
                      try clear p2
                      try clear q2
                      try clear c3
                      try clear p3
                      try clear q3
                      try clear hx3
                      try clear hf3
                      try clear c6
                      try clear p6
                      try clear c7
                      try clear c7b0
                      try clear c7b1
                      try clear c13
                      try clear p13
                      try clear q13
                      try clear hx13
                      try clear p14
                      try clear q14
                      try clear hx14
                      try clear c16
                      try clear c16b0
                      try clear c17
                      try clear c17b0
                      try clear c18
                      try clear c18b0
                      try clear c19
                      try clear c19b0
                      try clear c20
                      try clear c20b0
                      try clear c21
                      try clear c23
                      try clear c23b0
                      try clear c24
                      try clear c24b0
                      try clear c25
                      try clear c25b0
                      try clear c26
                      try clear c26b0
                      try clear c27
                      try clear c27b0
                      try clear q28
                      try clear c29
                      try clear c30
                      try clear c30b0
                      try clear c31
                      try clear c31b0
                      try clear c32
                      try clear c32b0
                      try clear c33
                      try clear c33b0
                      try clear c33b1
                      try clear c34
                      try clear c34b0
                      try clear p35
                      try clear q35
                      try clear hx35
                      try clear hf35
                      try clear hcz37_0
                      try clear hcz37_1
                      try clear hcz37_2
                      try clear hcz37_3
                      try clear hcz37_4
                      try clear hcz37_5
                      try clear hcz39_0
                      try clear hcz39_1
                      try clear hcz39_2
                      try clear hcz39_3
                      try clear hcz39_4
                      try clear hcz39_5
                      try clear hcz44_0
                      try clear hcz44_1
                      try clear hcz44_2
                      try clear hcz44_3
                      try clear hcz44_4
                      try clear hcz44_5
                      try clear hcz47_0
                      try clear hcz47_1
                      try clear hcz47_2
                      try clear hcz47_3
                      try clear hcz47_4
                      try clear hcz47_5
                      try clear hfz37_0
                      try clear hfz37_1
                      try clear hfz37_2
                      try clear hfz37_3
                      try clear hfz37_4
                      try clear hfz37_5
                      try clear hfz39_0
                      try clear hfz39_1
                      try clear hfz39_2
                      try clear hfz39_3
                      try clear hfz39_4
                      try clear hfz39_5
                      try clear hfz44_0
                      try clear hfz44_1
                      try clear hfz44_2
                      try clear hfz44_3
                      try clear hfz44_4
                      try clear hfz44_5
                      try clear hfz47_0
                      try clear hfz47_1
                      try clear hfz47_2
                      try clear hfz47_3
                      try clear hfz47_4
                      try clear hfz47_5
                      try clear hx133_0
                      try clear hx134_0
                      try clear hx135_0
                      try clear hx139_0
                      try clear hx139_1
                      try clear hx139_2
                      try clear hx139_3
                      try clear hx139_4
                      try clear hx139_5
                      try clear hx141_0
                      try clear hx142_0
                      try clear hx143_0
                      try clear hx35_0
                      try clear p1
                      try clear p13
                      try clear p133
                      try clear p134
                      try clear p135
                      try clear p139
                      try clear p141
                      try clear p142
                      try clear p143
                      try clear p2
                      try clear p35
                      try clear p6
                      try clear q1
                      try clear q13
                      try clear q133
                      try clear q134
                      try clear q135
                      try clear q139
                      try clear q141
                      try clear q142
                      try clear q143
                      try clear q35
                      obtain ⟨x12_4, rfl, HA, HK4, HO_7, HB⟩ := hrel
                      cases gk with
                      | zero => exact absurd HA.out (by simp [merkhetref17_Offsets.l3])
                      | succ k4 =>
                        have H := HA.out
                        clear HA
                        simp only [merkhetref17_Offsets.l3] at H
                        by_cases c49 : x12_4 < a0
                        · rw [if_pos c49] at H
                          have c49b0 : decide (x12_4 < a0) = true := decide_eq_true c49
                          clear c49
                          by_cases c50 : 0 ≤ x12_4
                          · rw [if_pos c50] at H
                            have c50b0 : decide (0 ≤ x12_4) = true := decide_eq_true c50
                            clear c50
                            by_cases c51 : x12_4 < (x7_3.length : Int)
                            · rw [if_pos c51] at H
                              have c51b0 : decide (x12_4 < (x7_3.length : Int)) = true := decide_eq_true c51
                              clear c51
                              obtain ⟨bq52, hbq52⟩ : ∃ b_ : Bool, b_ = (rdOf false x7_3 x12_4) := ⟨_, rfl⟩
                              replace H : (if bq52 = true then (merkhetref17_Offsets.l3 k4 a0 x7_3 (wrap64 (x12_4 + 1))) else (some false)) = some r := by rw [← hbq52] at H; exact H
                              have Nbq52 := Aside0.mk hbq52
                              clear hbq52
                              by_cases c53 : bq52 = true
                              · subst c53
                                have H1 : (merkhetref17_Offsets.l3 k4 a0 x7_3 (wrap64 (x12_4 + 1))) = some r := by rw [if_pos rfl] at H; exact H
                                clear H
                                have H := H1
                                clear H1
                                have H' := Aside0.mk H
                                clear H
                                obtain ⟨Ao54, co54, eo54⟩ := Kd.R_slice HO_7.out
                                subst eo54
                                have p145 : 0 ≤ (x12_4 : Int) := of_decide_eq_true (by first | (with_reducible assumption) | assumption)
                                have q145 : x12_4 < (x7_3.length : Int) := of_decide_eq_true (by first | (with_reducible assumption) | assumption)
                                obtain ⟨ad145, e145, hx145_0⟩ := Kd.at_bool (Kd.R_reads' HO_7.out).2.2 x12_4 p145 q145
                                (try rw [← Nbq52.out] at hx145_0)
                                cases e145
                                replace p145 := eq_true p145
                                replace q145 := eq_true q145
                                go_wp2
                                repeat (go_quiet (fail); try go_wp2)
                                go_roundg k4
                                case measure => have := HJ3.out; have := HK2.out; have := HK3.out; have := HK4.out; omega
                                case rel => exact ⟨(wrap64 (x12_4 + 1)), (by first | rfl | (simp; done) | (simp [*]; done)), H', ⟨by have := HJ3.out; have := HK2.out; have := HK3.out; have := HK4.out; omega⟩, ⟨by (with_reducible repeat (first | apply Kd.R_alloc | apply Kd.R_drewN | apply Kd.R_drew)); exact HO_7.out⟩, ⟨by repeat (first | (with_reducible first | exact HB.out | apply below_alloc | apply pw_below_drewN | apply below_drew1) | exact HB.out)⟩⟩
                              · replace c53 := Bool.eq_false_iff.mpr c53
                                subst c53
                                have H1 : (some false) = some r := by rw [if_neg (show ¬ (false = true) by decide)] at H; exact H
                                clear H
                                have H := H1
                                clear H1
                                obtain rfl := Option.some.inj H
                                obtain ⟨Ao55, co55, eo55⟩ := Kd.R_slice HO_7.out
                                subst eo55
                                have p145 : 0 ≤ (x12_4 : Int) := of_decide_eq_true (by first | (with_reducible assumption) | assumption)
                                have q145 : x12_4 < (x7_3.length : Int) := of_decide_eq_true (by first | (with_reducible assumption) | assumption)
                                obtain ⟨ad145, e145, hx145_0⟩ := Kd.at_bool (Kd.R_reads' HO_7.out).2.2 x12_4 p145 q145
                                (try rw [← Nbq52.out] at hx145_0)
                                cases e145
                                replace p145 := eq_true p145
                                replace q145 := eq_true q145
                                go_wp2
                                repeat (go_quiet (fail); try go_wp2)
                                go_ret
                                exact ⟨by first | rfl | (simp [errW_none, errW_some] <;> rfl) | (simp [*, errW_none, errW_some] <;> rfl), by repeat (first | (with_reducible first | exact HB.out | apply below_alloc | apply pw_below_drewN | apply below_drew1) | exact HB.out)⟩
                            · rw [if_neg c51] at H
                              exact absurd H (by simp)
                          · rw [if_neg c50] at H
                            exact absurd H (by simp)
                        · rw [if_neg c49] at H
                          have c49b0 : decide (x12_4 < a0) = false := decide_eq_false c49
                          clear c49
                          obtain rfl := Option.some.inj H
                          go_wp2
                          repeat (go_quiet (fail); try go_wp2)
                          go_ret
                          exact ⟨by first | rfl | (simp [errW_none, errW_some] <;> rfl) | (simp [*, errW_none, errW_some] <;> rfl), by repeat (first | (with_reducible first | exact HB.out | apply below_alloc | apply pw_below_drewN | apply below_drew1) | exact HB.out)⟩

end Go.Proofs.Ytacjlaiddnfpdaa.Y
