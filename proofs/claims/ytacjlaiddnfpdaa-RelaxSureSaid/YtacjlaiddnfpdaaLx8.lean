-- WRITTEN FOR THIS CLAIM by wip/tools/mp.py, a program of this project that drives the kit's print; the functions that the print does not take are this project's own texts.
import Derived.Test.YtacjlaiddnfpdaaLx0
import Derived.Test.YtacjlaiddnfpdaaLx2
import Derived.Test.YtacjlaiddnfpdaaLx6
namespace Go.Proofs.Ytacjlaiddnfpdaa.L
open Go.RowKit Go.Proofs.YtacjlaiddnfpdaaW.PrintWords Go.Proofs.YtacjlaiddnfpdaaW.PrintLast Go.Proofs.YtacjlaiddnfpdaaW.PrintMore
attribute [local go_sem] max2_int min2_int max_two min_two max_three min_three max_four min_four   -- for this text's walks alone
set_option linter.unusedVariables false
set_option linter.unusedSimpArgs false

/-! ### merkhetlaw15_RelaxSure: function 7 -/
mutual
def merkhetlaw15_RelaxSure.j0 : Nat → List Int → List (S43) → List Int → Int → Bool → Option (Bool)
  | 0, _, _, _, _, _ => none
  | k + 1, x0, x1, x2, x7, x42 => if x42 = true then ((merkhetlaw15_fixed.f k).bind fun t290 => (some t290)) else (merkhetlaw15_RelaxSure.l0 k x0 x1 x2 x7 0 x0 (x0.length : Int) 0)
def merkhetlaw15_RelaxSure.l0 : Nat → List Int → List (S43) → List Int → Int → Int → List Int → Int → Int → Option (Bool)
  | 0, _, _, _, _, _, _, _, _ => none
  | k + 1, x0, x1, x2, x7, x8, x44, x45, x46 => if x46 < x45 then (if 0 ≤ x46 then (if x46 < (x44.length : Int) then (if (rd x44 x46) > 1125899906842624 then ((merkhetlaw15_fixed.f k).bind fun t292 => (some t292)) else (if (rd x44 x46) < (-1125899906842624) then ((merkhetlaw15_fixed.f k).bind fun t293 => (some t293)) else (merkhetlaw15_RelaxSure.l0 k x0 x1 x2 x7 (mx x8 (rd x44 x46)) x44 x45 (wrap64 (x46 + 1))))) else (none)) else (none)) else (merkhetlaw15_RelaxSure.l1 k x0 x2 x7 x8 ([] : List (S48)) x1 (x1.length : Int) 0)
def merkhetlaw15_RelaxSure.l1 : Nat → List Int → List Int → Int → Int → List (S48) → List (S43) → Int → Int → Option (Bool)
  | 0, _, _, _, _, _, _, _, _ => none
  | k + 1, x0, x2, x7, x8, x11, x61, x62, x63 => if x63 < x62 then (if 0 ≤ x63 then (if x63 < (x61.length : Int) then (if x7 = 0 then (none) else (if 0 ≤ (Int.tmod (wrap64 ((rd_T43 x61 x63).f1)) x7) then (if (Int.tmod (wrap64 ((rd_T43 x61 x63).f1)) x7) < (x0.length : Int) then (if 0 ≤ (Int.tmod (wrap64 ((rd_T43 x61 x63).f0)) x7) then (if (Int.tmod (wrap64 ((rd_T43 x61 x63).f0)) x7) < (x0.length : Int) then (if (x2.length : Int) = 0 then (none) else (if 0 ≤ (Int.tmod x63 (x2.length : Int)) then (if (Int.tmod x63 (x2.length : Int)) < (x2.length : Int) then (if x11.length < 2932031007402 then (merkhetlaw15_RelaxSure.l1 k x0 x2 x7 x8 (x11 ++ [(⟨Int.tmod (wrap64 ((rd_T43 x61 x63).f0)) x7, Int.tmod (wrap64 ((rd_T43 x61 x63).f1)) x7, wrap64 ((wrap64 ((rd x0 (Int.tmod (wrap64 ((rd_T43 x61 x63).f1)) x7)) - (rd x0 (Int.tmod (wrap64 ((rd_T43 x61 x63).f0)) x7)))) + (wrap64 (rd x2 (Int.tmod x63 (x2.length : Int))))), (⟨0, 0⟩ : S46), false⟩ : S48)]) x61 x62 (wrap64 (x63 + 1))) else (none)) else (none)) else (none))) else (none)) else (none)) else (none)) else (none))) else (none)) else (none)) else ((relax_Solve.f k x7 x11).bind fun bt302 => (if bt302.2 = true then (if (bt302.1.length : Int) = x7 then ((merkhetref14_All.f k x11 bt302.1).bind fun t306 => (merkhetlaw15_RelaxSure.j3 k x0 x8 bt302.1 (!t306))) else (merkhetlaw15_RelaxSure.j3 k x0 x8 bt302.1 true)) else (merkhetlaw15_RelaxSure.j3 k x0 x8 bt302.1 true)))
def merkhetlaw15_RelaxSure.j3 : Nat → List Int → Int → List Int → Bool → Option (Bool)
  | 0, _, _, _, _ => none
  | k + 1, x0, x8, x16, x122 => if x122 = true then (some false) else (merkhetlaw15_RelaxSure.l2 k x8 x16 x0 (x0.length : Int) 0)
def merkhetlaw15_RelaxSure.l2 : Nat → Int → List Int → List Int → Int → Int → Option (Bool)
  | 0, _, _, _, _, _ => none
  | k + 1, x8, x16, x123, x124, x125 => if x125 < x124 then (if 0 ≤ x125 then (if x125 < (x123.length : Int) then (if x125 < (x16.length : Int) then (if (rd x16 x125) < (wrap64 ((rd x123 x125) - x8)) then (some false) else (if (rd x16 x125) > 0 then (some false) else (merkhetlaw15_RelaxSure.l2 k x8 x16 x123 x124 (wrap64 (x125 + 1))))) else (none)) else (none)) else (none)) else ((merkhetlaw15_fixed.f k).bind fun t310 => (some t310))
end
def merkhetlaw15_RelaxSure.f (k : Nat) (l0 : List Int) (l1 : List (S43)) (l2 : List Int) : Option (Bool) := if (l0.length : Int) = 0 then (merkhetlaw15_RelaxSure.j0 k l0 l1 l2 (l0.length : Int) true) else (if (l0.length : Int) > 32 then (merkhetlaw15_RelaxSure.j0 k l0 l1 l2 (l0.length : Int) true) else (if (l1.length : Int) > 100 then (merkhetlaw15_RelaxSure.j0 k l0 l1 l2 (l0.length : Int) true) else (if (l2.length : Int) = 0 then (merkhetlaw15_RelaxSure.j0 k l0 l1 l2 (l0.length : Int) true) else (merkhetlaw15_RelaxSure.j0 k l0 l1 l2 (l0.length : Int) (decide ((l2.length : Int) > 100))))))
theorem merkhetlaw15_RelaxSure.mono_l : ∀ k, (∀ y0 y1 y2 y3 y4, LeO (merkhetlaw15_RelaxSure.j0 k y0 y1 y2 y3 y4) (merkhetlaw15_RelaxSure.j0 (k + 1) y0 y1 y2 y3 y4)) ∧ (∀ y0 y1 y2 y3 y4 y5 y6 y7, LeO (merkhetlaw15_RelaxSure.l0 k y0 y1 y2 y3 y4 y5 y6 y7) (merkhetlaw15_RelaxSure.l0 (k + 1) y0 y1 y2 y3 y4 y5 y6 y7)) ∧ (∀ y0 y1 y2 y3 y4 y5 y6 y7, LeO (merkhetlaw15_RelaxSure.l1 k y0 y1 y2 y3 y4 y5 y6 y7) (merkhetlaw15_RelaxSure.l1 (k + 1) y0 y1 y2 y3 y4 y5 y6 y7)) ∧ (∀ y0 y1 y2 y3, LeO (merkhetlaw15_RelaxSure.j3 k y0 y1 y2 y3) (merkhetlaw15_RelaxSure.j3 (k + 1) y0 y1 y2 y3)) ∧ (∀ y0 y1 y2 y3 y4, LeO (merkhetlaw15_RelaxSure.l2 k y0 y1 y2 y3 y4) (merkhetlaw15_RelaxSure.l2 (k + 1) y0 y1 y2 y3 y4))
  | 0 => ⟨fun _ _ _ _ _ r h => by simp [merkhetlaw15_RelaxSure.j0] at h, fun _ _ _ _ _ _ _ _ r h => by simp [merkhetlaw15_RelaxSure.l0] at h, fun _ _ _ _ _ _ _ _ r h => by simp [merkhetlaw15_RelaxSure.l1] at h, fun _ _ _ _ r h => by simp [merkhetlaw15_RelaxSure.j3] at h, fun _ _ _ _ _ r h => by simp [merkhetlaw15_RelaxSure.l2] at h⟩
  | k + 1 => by
    obtain ⟨ih0, ih1, ih2, ih3, ih4⟩ := merkhetlaw15_RelaxSure.mono_l k
    refine ⟨?_, ?_, ?_, ?_, ?_⟩
    · intro y0 y1 y2 y3 y4
      unfold merkhetlaw15_RelaxSure.j0
      repeat' first
      | (with_reducible exact ih0 _ _ _ _ _)
      | (with_reducible exact ih1 _ _ _ _ _ _ _ _)
      | (with_reducible exact ih2 _ _ _ _ _ _ _ _)
      | (with_reducible exact ih3 _ _ _ _)
      | (with_reducible exact ih4 _ _ _ _ _)
      | (with_reducible exact merkhetlaw15_fixed.mono _)
      | (with_reducible exact merkhetref14_All.mono _ _ _)
      | (with_reducible exact relax_Solve.mono _ _ _)
      | (with_reducible exact LeO.refl _)
      | (with_reducible exact LeO.none _)
      | (with_reducible refine LeO.ite ?_ ?_)
      | (with_reducible refine LeO.bind ?_ (fun _ => ?_))
      | exact ih0 _ _ _ _ _
      | exact ih1 _ _ _ _ _ _ _ _
      | exact ih2 _ _ _ _ _ _ _ _
      | exact ih3 _ _ _ _
      | exact ih4 _ _ _ _ _
      | exact merkhetlaw15_fixed.mono _
      | exact merkhetref14_All.mono _ _ _
      | exact relax_Solve.mono _ _ _
      | exact LeO.none _
      | refine LeO.ite ?_ ?_
      | refine LeO.bind ?_ (fun _ => ?_)
    · intro y0 y1 y2 y3 y4 y5 y6 y7
      unfold merkhetlaw15_RelaxSure.l0
      repeat' first
      | (with_reducible exact ih0 _ _ _ _ _)
      | (with_reducible exact ih1 _ _ _ _ _ _ _ _)
      | (with_reducible exact ih2 _ _ _ _ _ _ _ _)
      | (with_reducible exact ih3 _ _ _ _)
      | (with_reducible exact ih4 _ _ _ _ _)
      | (with_reducible exact merkhetlaw15_fixed.mono _)
      | (with_reducible exact merkhetref14_All.mono _ _ _)
      | (with_reducible exact relax_Solve.mono _ _ _)
      | (with_reducible exact LeO.refl _)
      | (with_reducible exact LeO.none _)
      | (with_reducible refine LeO.ite ?_ ?_)
      | (with_reducible refine LeO.bind ?_ (fun _ => ?_))
      | exact ih0 _ _ _ _ _
      | exact ih1 _ _ _ _ _ _ _ _
      | exact ih2 _ _ _ _ _ _ _ _
      | exact ih3 _ _ _ _
      | exact ih4 _ _ _ _ _
      | exact merkhetlaw15_fixed.mono _
      | exact merkhetref14_All.mono _ _ _
      | exact relax_Solve.mono _ _ _
      | exact LeO.none _
      | refine LeO.ite ?_ ?_
      | refine LeO.bind ?_ (fun _ => ?_)
    · intro y0 y1 y2 y3 y4 y5 y6 y7
      unfold merkhetlaw15_RelaxSure.l1
      repeat' first
      | (with_reducible exact ih0 _ _ _ _ _)
      | (with_reducible exact ih1 _ _ _ _ _ _ _ _)
      | (with_reducible exact ih2 _ _ _ _ _ _ _ _)
      | (with_reducible exact ih3 _ _ _ _)
      | (with_reducible exact ih4 _ _ _ _ _)
      | (with_reducible exact merkhetlaw15_fixed.mono _)
      | (with_reducible exact merkhetref14_All.mono _ _ _)
      | (with_reducible exact relax_Solve.mono _ _ _)
      | (with_reducible exact LeO.refl _)
      | (with_reducible exact LeO.none _)
      | (with_reducible refine LeO.ite ?_ ?_)
      | (with_reducible refine LeO.bind ?_ (fun _ => ?_))
      | exact ih0 _ _ _ _ _
      | exact ih1 _ _ _ _ _ _ _ _
      | exact ih2 _ _ _ _ _ _ _ _
      | exact ih3 _ _ _ _
      | exact ih4 _ _ _ _ _
      | exact merkhetlaw15_fixed.mono _
      | exact merkhetref14_All.mono _ _ _
      | exact relax_Solve.mono _ _ _
      | exact LeO.none _
      | refine LeO.ite ?_ ?_
      | refine LeO.bind ?_ (fun _ => ?_)
    · intro y0 y1 y2 y3
      unfold merkhetlaw15_RelaxSure.j3
      repeat' first
      | (with_reducible exact ih0 _ _ _ _ _)
      | (with_reducible exact ih1 _ _ _ _ _ _ _ _)
      | (with_reducible exact ih2 _ _ _ _ _ _ _ _)
      | (with_reducible exact ih3 _ _ _ _)
      | (with_reducible exact ih4 _ _ _ _ _)
      | (with_reducible exact merkhetlaw15_fixed.mono _)
      | (with_reducible exact merkhetref14_All.mono _ _ _)
      | (with_reducible exact relax_Solve.mono _ _ _)
      | (with_reducible exact LeO.refl _)
      | (with_reducible exact LeO.none _)
      | (with_reducible refine LeO.ite ?_ ?_)
      | (with_reducible refine LeO.bind ?_ (fun _ => ?_))
      | exact ih0 _ _ _ _ _
      | exact ih1 _ _ _ _ _ _ _ _
      | exact ih2 _ _ _ _ _ _ _ _
      | exact ih3 _ _ _ _
      | exact ih4 _ _ _ _ _
      | exact merkhetlaw15_fixed.mono _
      | exact merkhetref14_All.mono _ _ _
      | exact relax_Solve.mono _ _ _
      | exact LeO.none _
      | refine LeO.ite ?_ ?_
      | refine LeO.bind ?_ (fun _ => ?_)
    · intro y0 y1 y2 y3 y4
      unfold merkhetlaw15_RelaxSure.l2
      repeat' first
      | (with_reducible exact ih0 _ _ _ _ _)
      | (with_reducible exact ih1 _ _ _ _ _ _ _ _)
      | (with_reducible exact ih2 _ _ _ _ _ _ _ _)
      | (with_reducible exact ih3 _ _ _ _)
      | (with_reducible exact ih4 _ _ _ _ _)
      | (with_reducible exact merkhetlaw15_fixed.mono _)
      | (with_reducible exact merkhetref14_All.mono _ _ _)
      | (with_reducible exact relax_Solve.mono _ _ _)
      | (with_reducible exact LeO.refl _)
      | (with_reducible exact LeO.none _)
      | (with_reducible refine LeO.ite ?_ ?_)
      | (with_reducible refine LeO.bind ?_ (fun _ => ?_))
      | exact ih0 _ _ _ _ _
      | exact ih1 _ _ _ _ _ _ _ _
      | exact ih2 _ _ _ _ _ _ _ _
      | exact ih3 _ _ _ _
      | exact ih4 _ _ _ _ _
      | exact merkhetlaw15_fixed.mono _
      | exact merkhetref14_All.mono _ _ _
      | exact relax_Solve.mono _ _ _
      | exact LeO.none _
      | refine LeO.ite ?_ ?_
      | refine LeO.bind ?_ (fun _ => ?_)
theorem merkhetlaw15_RelaxSure.mono : ∀ a0 a1 a2 k, LeO (merkhetlaw15_RelaxSure.f k a0 a1 a2) (merkhetlaw15_RelaxSure.f (k + 1) a0 a1 a2) := by
  intro a0 a1 a2 k
  obtain ⟨ih0, ih1, ih2, ih3, ih4⟩ := merkhetlaw15_RelaxSure.mono_l k
  unfold merkhetlaw15_RelaxSure.f
  repeat' first
      | (with_reducible exact ih0 _ _ _ _ _)
      | (with_reducible exact ih1 _ _ _ _ _ _ _ _)
      | (with_reducible exact ih2 _ _ _ _ _ _ _ _)
      | (with_reducible exact ih3 _ _ _ _)
      | (with_reducible exact ih4 _ _ _ _ _)
      | (with_reducible exact merkhetlaw15_fixed.mono _)
      | (with_reducible exact merkhetref14_All.mono _ _ _)
      | (with_reducible exact relax_Solve.mono _ _ _)
      | (with_reducible exact LeO.refl _)
      | (with_reducible exact LeO.none _)
      | (with_reducible refine LeO.ite ?_ ?_)
      | (with_reducible refine LeO.bind ?_ (fun _ => ?_))
      | exact ih0 _ _ _ _ _
      | exact ih1 _ _ _ _ _ _ _ _
      | exact ih2 _ _ _ _ _ _ _ _
      | exact ih3 _ _ _ _
      | exact ih4 _ _ _ _ _
      | exact merkhetlaw15_fixed.mono _
      | exact merkhetref14_All.mono _ _ _
      | exact relax_Solve.mono _ _ _
      | exact LeO.none _
      | refine LeO.ite ?_ ?_
      | refine LeO.bind ?_ (fun _ => ?_)
def merkhetlaw15_RelaxSure.T16 : Bool × List (List Nat × List Nat) := (true, [([], []), ([0], [0]), ([1], [1]), ([], []), ([2, 3], [2, 3]), ([], []), ([5], [5]), ([6], [6]), ([], []), ([7, 8], [7, 8]), ([4, 0, 1, 2, 3, 4], [4]), ([9, 10, 0, 1, 2, 3, 4, 5, 6, 7, 8, 9, 10], [9])])
def merkhetlaw15_RelaxSure.B16 : List Nat := [0, 1, 3, 0, 15, 0, 32, 96, 0, 480, 31, 2047]
theorem merkhetlaw15_RelaxSure.tab16 : rtab .any (opsOf Try.f7 16) = merkhetlaw15_RelaxSure.T16 := by kernel_rfl
theorem merkhetlaw15_RelaxSure.bits16 : waitsOk merkhetlaw15_RelaxSure.T16.2 merkhetlaw15_RelaxSure.B16 = true := by kernel_rfl
def merkhetlaw15_RelaxSure.T17 : Bool × List (List Nat × List Nat) := (true, [([], []), ([], []), ([], []), ([], []), ([], []), ([3, 4], [3, 4]), ([5], [5]), ([], []), ([], []), ([7, 8], [7, 8]), ([9], [9]), ([6, 10], [6, 10]), ([], []), ([], []), ([], []), ([14], [14]), ([13, 15], [13, 15]), ([12, 16], [12, 16]), ([17], [17]), ([18], [18]), ([11, 19], [11, 19]), ([1, 2, 20], [1, 2, 20]), ([21], [21]), ([0, 22], [0, 22]), ([23, 23, 0, 1, 2, 3, 4, 5, 6, 7, 8, 9, 10, 11, 12, 13, 14, 15, 16, 17, 18, 19, 20, 21, 22, 23], [0, 23])])
def merkhetlaw15_RelaxSure.B17 : List Nat := [0, 0, 0, 0, 0, 24, 56, 0, 0, 384, 896, 2040, 0, 0, 0, 16384, 57344, 126976, 258048, 520192, 1048568, 2097150, 4194302, 8388607, 16777215]
theorem merkhetlaw15_RelaxSure.tab17 : rtab .any (opsOf Try.f7 17) = merkhetlaw15_RelaxSure.T17 := by kernel_rfl
theorem merkhetlaw15_RelaxSure.bits17 : waitsOk merkhetlaw15_RelaxSure.T17.2 merkhetlaw15_RelaxSure.B17 = true := by kernel_rfl
set_option maxHeartbeats 8000000 in
set_option maxRecDepth 100000 in
theorem merkhetlaw15_RelaxSure.calls (k : Nat) (A0 : Option Addr) (c0 : Nat) (l0 : List Int) (A1 : Option Addr) (c1 : Nat) (l1 : List (S43)) (A2 : Option Addr) (c2 : Nat) (l2 : List Int) (r : Bool) (w : World) (hr0 : Kd.C (Kd.int .i64) w A0 l0.length l0) (hc0 : l0.length ≤ c0) (hr1 : Kd.C k43 w A1 l1.length l1) (hc1 : l1.length ≤ c1) (hr2 : Kd.C (Kd.int .u32) w A2 l2.length l2) (hc2 : l2.length ≤ c2) (h : merkhetlaw15_RelaxSure.f k l0 l1 l2 = some r) :
    Calls Try.prog 7 #[.slice A0 l0.length c0, .slice A1 l1.length c1, .slice A2 l2.length c2] w fun e w' => e = .returned (.bool r) ∧ Below w.heap.size w w' := by
  have hu43 := Try.underlying43
  have hu48 := Try.underlying48
  have HR0 := Aside0.mk hr0
  have HC0 := Aside0.mk hc0
  clear hr0 hc0
  have HR1 := Aside0.mk hr1
  have HC1 := Aside0.mk hc1
  clear hr1 hc1
  have HR2 := Aside0.mk hr2
  have HC2 := Aside0.mk hc2
  clear hr2 hc2
  have HB := Aside0.mk (Below.refl w.heap.size w)
  have H : (if (l0.length : Int) = 0 then (merkhetlaw15_RelaxSure.j0 k l0 l1 l2 (l0.length : Int) true) else (if (l0.length : Int) > 32 then (merkhetlaw15_RelaxSure.j0 k l0 l1 l2 (l0.length : Int) true) else (if (l1.length : Int) > 100 then (merkhetlaw15_RelaxSure.j0 k l0 l1 l2 (l0.length : Int) true) else (if (l2.length : Int) = 0 then (merkhetlaw15_RelaxSure.j0 k l0 l1 l2 (l0.length : Int) true) else (merkhetlaw15_RelaxSure.j0 k l0 l1 l2 (l0.length : Int) (decide ((l2.length : Int) > 100))))))) = some r := h
  clear h
  have HC4 := Aside0.mk H
  clear H
  go_enter Try.func7, Try.ntmps7
  go_upto_region 2 with (fail)
  go_cut [42] (fun v42 wc => ∃ (kq : Nat) (x42_3 : Bool), v42 = .bool x42_3 ∧ Aside0 (merkhetlaw15_RelaxSure.j0 kq l0 l1 l2 (l0.length : Int) x42_3 = some r) ∧ Aside0 (kq ≤ k) ∧ Aside0 (Below w.heap.size w wc))
  case first =>
    have H := HC4.out
    clear HC4
    by_cases c5 : (l0.length : Int) = 0
    · rw [if_pos c5] at H
      have c5b0 : ((l0.length : Int) == 0) = true := beq_iff_eq.mpr c5
      have c5b1 : ((l0.length : Int) != 0) = false := bne_eq_false_iff_eq.mpr c5
      clear c5
      (first | rw [c5b0] | (simp only [i64_w, i32_w]; rw [c5b0]) | skip)
      have H' := Aside0.mk H
      clear H
      go_wp2
      go_meet
      case rel => exact ⟨_, (true), (by first | rfl | (simp; done) | (simp [*]; done)), H', ⟨by first | omega | exact Nat.le_refl _⟩, ⟨by repeat (first | (with_reducible first | exact HB.out | apply below_alloc | apply pw_below_drewN | apply below_drew1) | exact HB.out)⟩⟩
    · rw [if_neg c5] at H
      have c5b0 : ((l0.length : Int) == 0) = false := beq_eq_false_iff_ne.mpr c5
      have c5b1 : ((l0.length : Int) != 0) = true := bne_iff_ne.mpr c5
      have c5b2 : ¬ (l0 = []) := fun h_ => c5 (by rw [h_]; rfl)
      (first | rw [c5b0] | (simp only [i64_w, i32_w]; rw [c5b0]) | skip)
      by_cases c6 : (l0.length : Int) > 32
      · rw [if_pos c6] at H
        have c6b0 : decide (32 < (l0.length : Int)) = true := decide_eq_true c6
        have c6b1 : decide (32 < l0.length) = true := decide_eq_true (by omega)
        clear c6
        have H' := Aside0.mk H
        clear H
        go_wp2
        go_meet
        case rel => exact ⟨_, (true), (by first | rfl | (simp; done) | (simp [*]; done)), H', ⟨by first | omega | exact Nat.le_refl _⟩, ⟨by repeat (first | (with_reducible first | exact HB.out | apply below_alloc | apply pw_below_drewN | apply below_drew1) | exact HB.out)⟩⟩
      · rw [if_neg c6] at H
        have c6b0 : decide (32 < (l0.length : Int)) = false := decide_eq_false c6
        have c6b1 : decide (32 < l0.length) = false := decide_eq_false (by omega)
        clear c6
        by_cases c7 : (l1.length : Int) > 100
        · rw [if_pos c7] at H
          have c7b0 : decide (100 < (l1.length : Int)) = true := decide_eq_true c7
          have c7b1 : decide (100 < l1.length) = true := decide_eq_true (by omega)
          clear c7
          have H' := Aside0.mk H
          clear H
          go_wp2
          go_meet
          case rel => exact ⟨_, (true), (by first | rfl | (simp; done) | (simp [*]; done)), H', ⟨by first | omega | exact Nat.le_refl _⟩, ⟨by repeat (first | (with_reducible first | exact HB.out | apply below_alloc | apply pw_below_drewN | apply below_drew1) | exact HB.out)⟩⟩
        · rw [if_neg c7] at H
          have c7b0 : decide (100 < (l1.length : Int)) = false := decide_eq_false c7
          have c7b1 : decide (100 < l1.length) = false := decide_eq_false (by omega)
          clear c7
          by_cases c8 : (l2.length : Int) = 0
          · rw [if_pos c8] at H
            have c8b0 : ((l2.length : Int) == 0) = true := beq_iff_eq.mpr c8
            have c8b1 : ((l2.length : Int) != 0) = false := bne_eq_false_iff_eq.mpr c8
            clear c8
            have H' := Aside0.mk H
            clear H
            go_wp2
            go_meet
            case rel => exact ⟨_, (true), (by first | rfl | (simp; done) | (simp [*]; done)), H', ⟨by first | omega | exact Nat.le_refl _⟩, ⟨by repeat (first | (with_reducible first | exact HB.out | apply below_alloc | apply pw_below_drewN | apply below_drew1) | exact HB.out)⟩⟩
          · rw [if_neg c8] at H
            have c8b0 : ((l2.length : Int) == 0) = false := beq_eq_false_iff_ne.mpr c8
            have c8b1 : ((l2.length : Int) != 0) = true := bne_iff_ne.mpr c8
            have c8b2 : ¬ (l2 = []) := fun h_ => c8 (by rw [h_]; rfl)
            have H' := Aside0.mk H
            clear H
            go_wp2
            go_meet
            case rel => exact ⟨_, (decide ((l2.length : Int) > 100)), (by first | rfl | (simp; done) | (simp [*]; done)), H', ⟨by first | omega | exact Nat.le_refl _⟩, ⟨by repeat (first | (with_reducible first | exact HB.out | apply below_alloc | apply pw_below_drewN | apply below_drew1) | exact HB.out)⟩⟩
  case rest =>
    clear HC4
    try clear c1
    try clear c2
    try clear p2
    try clear c5
    try clear c5b0
    try clear c5b1
    try clear c5b2
    try clear c6
    try clear c6b0
    try clear c6b1
    try clear c7
    try clear c7b0
    try clear c7b1
    try clear c8
    try clear c8b0
    try clear c8b1
    try clear c8b2
    obtain ⟨kq, x42_3, rfl, HA, HJ3, HB⟩ := hcut
    cases kq with
    | zero => exact absurd HA.out (by simp [merkhetlaw15_RelaxSure.j0])
    | succ kj3 =>
      have H := HA.out
      clear HA
      simp only [merkhetlaw15_RelaxSure.j0] at H
      by_cases c9 : x42_3 = true
      · subst c9
        have H1 : ((merkhetlaw15_fixed.f kj3).bind fun t290 => (some t290)) = some r := by rw [if_pos rfl] at H; exact H
        clear H
        have H := H1
        clear H1
        replace H := Option.bind_eq_some_iff.mp H
        obtain ⟨t290, A100, H⟩ := H
        replace H : (some t290) = some r := H
        have A10 := Aside0.mk A100
        clear A100
        obtain rfl := Option.some.inj H
        go_wp2_with (first | ((with_reducible refine gate_callee (f := 20) rfl ?_); refine goesL_ (some 43) rfl rfl Try.func20 (by kernel_rfl) rfl #[] rfl (by (try simp only [List.map_toArray, List.map_cons, List.map_nil]); first | done | rfl | (simp only [List.length_drop, List.length_take]; rfl)) ?_; (with_reducible refine (merkhetlaw15_fixed.calls kj3  t290 _ A10.out).mono ?_); rintro e w11 ⟨rfl, hb⟩; refine ⟨_, rfl, ?_⟩; have n0_ := Aside0.mk (below_step (by repeat (first | (with_reducible first | exact HB.out | apply below_alloc | apply pw_below_drewN | apply below_drew1) | exact HB.out)) hb); clear HB; have HB := n0_; clear n0_; (try clear hb); (try clear hb2); (try clear hk); (try clear hi)))
        go_ret
        exact ⟨by first | rfl | (simp [errW_none, errW_some] <;> rfl) | (simp [*, errW_none, errW_some] <;> rfl), by repeat (first | (with_reducible first | exact HB.out | apply below_alloc | apply pw_below_drewN | apply below_drew1) | exact HB.out)⟩
      · replace c9 := Bool.eq_false_iff.mpr c9
        subst c9
        have H1 : (merkhetlaw15_RelaxSure.l0 kj3 l0 l1 l2 (l0.length : Int) 0 l0 (l0.length : Int) 0) = some r := by rw [if_neg (show ¬ (false = true) by decide)] at H; exact H
        clear H
        have H := H1
        clear H1
        have H' := Aside0.mk H
        clear H
        go_wp2
        go_loopg [8, 46] kj3 (fun kq v8 v46 w' => ∃ (x8_2 : Int) (x46_2 : Int), v8 = .int .i64 x8_2 ∧ v46 = .int .i64 x46_2 ∧ Aside0 (merkhetlaw15_RelaxSure.l0 kq l0 l1 l2 (l0.length : Int) x8_2 l0 (l0.length : Int) x46_2 = some r) ∧ Aside0 (kq ≤ kj3) ∧ Aside0 (Below w.heap.size w w'))
        case atStart => exact ⟨(0), (0), (by first | rfl | (simp; done) | (simp [*]; done)), (by first | rfl | (simp; done) | (simp [*]; done)), H', ⟨Nat.le_refl _⟩, ⟨by repeat (first | (with_reducible first | exact HB.out | apply below_alloc | apply pw_below_drewN | apply below_drew1) | exact HB.out)⟩⟩
        case round =>
          clear H'
          try clear c1
          try clear c2
          try clear p2
          try clear c5
          try clear c5b0
          try clear c5b1
          try clear c5b2
          try clear c6
          try clear c6b0
          try clear c6b1
          try clear c7
          try clear c7b0
          try clear c7b1
          try clear c8
          try clear c8b0
          try clear c8b1
          try clear c8b2
          try clear c9
          try clear p2
          obtain ⟨x8_2, x46_2, rfl, rfl, HA, HK2, HB⟩ := hrel
          cases gk with
          | zero => exact absurd HA.out (by simp [merkhetlaw15_RelaxSure.l0])
          | succ k2 =>
            have H := HA.out
            clear HA
            simp only [merkhetlaw15_RelaxSure.l0] at H
            by_cases c12 : x46_2 < (l0.length : Int)
            · rw [if_pos c12] at H
              have c12b0 : decide (x46_2 < (l0.length : Int)) = true := decide_eq_true c12
              clear c12
              by_cases c13 : 0 ≤ x46_2
              · rw [if_pos c13] at H
                have c13b0 : decide (0 ≤ x46_2) = true := decide_eq_true c13
                clear c13
                by_cases c14 : x46_2 < (l0.length : Int)
                · rw [if_pos c14] at H
                  have c14b0 : decide (x46_2 < (l0.length : Int)) = true := decide_eq_true c14
                  clear c14
                  by_cases c15 : (rd l0 x46_2) > 1125899906842624
                  · rw [if_pos c15] at H
                    have c15b0 : decide (1125899906842624 < (rd l0 x46_2)) = true := decide_eq_true c15
                    clear c15
                    replace H := Option.bind_eq_some_iff.mp H
                    obtain ⟨t292, A160, H⟩ := H
                    replace H : (some t292) = some r := H
                    have A16 := Aside0.mk A160
                    clear A160
                    obtain rfl := Option.some.inj H
                    have p291 : 0 ≤ (x46_2 : Int) := of_decide_eq_true (by first | (with_reducible assumption) | assumption)
                    have q291 : x46_2 < (l0.length : Int) := of_decide_eq_true (by first | (with_reducible assumption) | assumption)
                    obtain ⟨ad291, e291, hx291_0⟩ := Kd.at_int HR0.out x46_2 p291 q291
                    cases e291
                    replace hx291_0 := (HB.out.cell (World.block_lt_of_cell? w _ hx291_0)).trans hx291_0
                    replace p291 := eq_true p291
                    replace q291 := eq_true q291
                    go_wp2_with (first | ((with_reducible refine gate_callee (f := 20) rfl ?_); refine goesL_ (some 56) rfl rfl Try.func20 (by kernel_rfl) rfl #[] rfl (by (try simp only [List.map_toArray, List.map_cons, List.map_nil]); first | done | rfl | (simp only [List.length_drop, List.length_take]; rfl)) ?_; (with_reducible refine (merkhetlaw15_fixed.calls k2  t292 _ A16.out).mono ?_); rintro e w17 ⟨rfl, hb⟩; refine ⟨_, rfl, ?_⟩; have n0_ := Aside0.mk (below_step (by repeat (first | (with_reducible first | exact HB.out | apply below_alloc | apply pw_below_drewN | apply below_drew1) | exact HB.out)) hb); clear HB; have HB := n0_; clear n0_; (try clear hb); (try clear hb2); (try clear hk); (try clear hi)))
                    go_ret
                    exact ⟨by first | rfl | (simp [errW_none, errW_some] <;> rfl) | (simp [*, errW_none, errW_some] <;> rfl), by repeat (first | (with_reducible first | exact HB.out | apply below_alloc | apply pw_below_drewN | apply below_drew1) | exact HB.out)⟩
                  · rw [if_neg c15] at H
                    have c15b0 : decide (1125899906842624 < (rd l0 x46_2)) = false := decide_eq_false c15
                    clear c15
                    by_cases c18 : (rd l0 x46_2) < (-1125899906842624)
                    · rw [if_pos c18] at H
                      have c18b0 : decide ((rd l0 x46_2) < (-1125899906842624)) = true := decide_eq_true c18
                      clear c18
                      replace H := Option.bind_eq_some_iff.mp H
                      obtain ⟨t293, A190, H⟩ := H
                      replace H : (some t293) = some r := H
                      have A19 := Aside0.mk A190
                      clear A190
                      obtain rfl := Option.some.inj H
                      have p291 : 0 ≤ (x46_2 : Int) := of_decide_eq_true (by first | (with_reducible assumption) | assumption)
                      have q291 : x46_2 < (l0.length : Int) := of_decide_eq_true (by first | (with_reducible assumption) | assumption)
                      obtain ⟨ad291, e291, hx291_0⟩ := Kd.at_int HR0.out x46_2 p291 q291
                      cases e291
                      replace hx291_0 := (HB.out.cell (World.block_lt_of_cell? w _ hx291_0)).trans hx291_0
                      replace p291 := eq_true p291
                      replace q291 := eq_true q291
                      go_wp2_with (first | ((with_reducible refine gate_callee (f := 20) rfl ?_); refine goesL_ (some 56) rfl rfl Try.func20 (by kernel_rfl) rfl #[] rfl (by (try simp only [List.map_toArray, List.map_cons, List.map_nil]); first | done | rfl | (simp only [List.length_drop, List.length_take]; rfl)) ?_; (with_reducible refine (merkhetlaw15_fixed.calls k2  t293 _ A19.out).mono ?_); rintro e w20 ⟨rfl, hb⟩; refine ⟨_, rfl, ?_⟩; have n0_ := Aside0.mk (below_step (by repeat (first | (with_reducible first | exact HB.out | apply below_alloc | apply pw_below_drewN | apply below_drew1) | exact HB.out)) hb); clear HB; have HB := n0_; clear n0_; (try clear hb); (try clear hb2); (try clear hk); (try clear hi)))
                      go_ret
                      exact ⟨by first | rfl | (simp [errW_none, errW_some] <;> rfl) | (simp [*, errW_none, errW_some] <;> rfl), by repeat (first | (with_reducible first | exact HB.out | apply below_alloc | apply pw_below_drewN | apply below_drew1) | exact HB.out)⟩
                    · rw [if_neg c18] at H
                      have c18b0 : decide ((rd l0 x46_2) < (-1125899906842624)) = false := decide_eq_false c18
                      clear c18
                      obtain ⟨ji21, hji21⟩ : ∃ j_ : Int, (mx x8_2 (rd l0 x46_2)) = j_ := ⟨_, rfl⟩
                      replace H : (merkhetlaw15_RelaxSure.l0 k2 l0 l1 l2 (l0.length : Int) ji21 l0 (l0.length : Int) (wrap64 (x46_2 + 1))) = some r := by first | (rw [hji21] at H; exact H) | (simp only [hji21] at H ⊢; exact H)
                      have hji21_ : (if x8_2 < (rd l0 x46_2) then (rd l0 x46_2) else x8_2) = ji21 := hji21
                      have H' := Aside0.mk H
                      clear H
                      have p291 : 0 ≤ (x46_2 : Int) := of_decide_eq_true (by first | (with_reducible assumption) | assumption)
                      have q291 : x46_2 < (l0.length : Int) := of_decide_eq_true (by first | (with_reducible assumption) | assumption)
                      obtain ⟨ad291, e291, hx291_0⟩ := Kd.at_int HR0.out x46_2 p291 q291
                      cases e291
                      replace hx291_0 := (HB.out.cell (World.block_lt_of_cell? w _ hx291_0)).trans hx291_0
                      replace p291 := eq_true p291
                      replace q291 := eq_true q291
                      go_wp2
                      go_roundg k2
                      case measure => have := HJ3.out; have := HK2.out; omega
                      case rel => exact ⟨(ji21), (wrap64 (x46_2 + 1)), (by first | rfl | (simp; done) | (simp only [← hji21] <;> (first | rfl | simp)) | (simp [*]; done)), (by first | rfl | (simp; done) | (simp [*]; done)), H', ⟨by have := HJ3.out; have := HK2.out; omega⟩, ⟨by repeat (first | (with_reducible first | exact HB.out | apply below_alloc | apply pw_below_drewN | apply below_drew1) | exact HB.out)⟩⟩
                · rw [if_neg c14] at H
                  exact absurd H (by simp)
              · rw [if_neg c13] at H
                exact absurd H (by simp)
            · rw [if_neg c12] at H
              have c12b0 : decide (x46_2 < (l0.length : Int)) = false := decide_eq_false c12
              clear c12
              have H' := Aside0.mk H
              clear H
              go_wp2
              go_loopg [11, 63] k2 (fun kq v11 v63 w' => ∃ (x11_3 : List (S48)) (x63_3 : Int), v63 = .int .i64 x63_3 ∧ Aside0 (merkhetlaw15_RelaxSure.l1 kq l0 l2 (l0.length : Int) x8_2 x11_3 l1 (l1.length : Int) x63_3 = some r) ∧ Aside0 (kq ≤ k2) ∧ Aside0 (Kd.R k48 48 w' w.heap.size (fun _ => True) v11 x11_3) ∧ Aside0 (Below w.heap.size w w'))
              case atStart => exact ⟨(([] : List (S48))), (0), (by first | rfl | (simp; done) | (simp [*]; done)), H', ⟨Nat.le_refl _⟩, ⟨by first | exact Kd.R_nil _ _ _ _ _ | exact Kd.N_nil _ _ _ _ _ | exact Kd.V_nil _ _ _ _ _ | exact Kd.Q_nil _ _ _ _ _ | exact Kd.S_nil _ _ _ _ _⟩, ⟨by repeat (first | (with_reducible first | exact HB.out | apply below_alloc | apply pw_below_drewN | apply below_drew1) | exact HB.out)⟩⟩
              case round =>
                clear H'
                try clear c1
                try clear c2
                try clear p2
                try clear q2
                try clear hx2
                try clear c5
                try clear c5b0
                try clear c5b1
                try clear c5b2
                try clear c6
                try clear c6b0
                try clear c6b1
                try clear p6
                try clear c7
                try clear c7b0
                try clear c7b1
                try clear c8
                try clear c8b0
                try clear c8b1
                try clear c8b2
                try clear c9
                try clear c12
                try clear c12b0
                try clear c13
                try clear c13b0
                try clear c14
                try clear c14b0
                try clear c15
                try clear c15b0
                try clear c18
                try clear c18b0
                try clear c20
                try clear hx291_0
                try clear p2
                try clear p291
                try clear q291
                obtain ⟨x11_3, x63_3, rfl, HA, HK3, HO_11, HB⟩ := hrel
                cases gk with
                | zero => exact absurd HA.out (by simp [merkhetlaw15_RelaxSure.l1])
                | succ k3 =>
                  have H := HA.out
                  clear HA
                  simp only [merkhetlaw15_RelaxSure.l1] at H
                  by_cases c22 : x63_3 < (l1.length : Int)
                  · rw [if_pos c22] at H
                    have c22b0 : decide (x63_3 < (l1.length : Int)) = true := decide_eq_true c22
                    clear c22
                    by_cases c23 : 0 ≤ x63_3
                    · rw [if_pos c23] at H
                      have c23b0 : decide (0 ≤ x63_3) = true := decide_eq_true c23
                      clear c23
                      by_cases c24 : x63_3 < (l1.length : Int)
                      · rw [if_pos c24] at H
                        have c24b0 : decide (x63_3 < (l1.length : Int)) = true := decide_eq_true c24
                        clear c24
                        by_cases c25 : (l0.length : Int) = 0
                        · rw [if_pos c25] at H
                          exact absurd H (by simp)
                        · rw [if_neg c25] at H
                          have c25b0 : ((l0.length : Int) == 0) = false := beq_eq_false_iff_ne.mpr c25
                          have c25b1 : ((l0.length : Int) != 0) = true := bne_iff_ne.mpr c25
                          have c25b2 : ¬ (l0 = []) := fun h_ => c25 (by rw [h_]; rfl)
                          obtain ⟨ji26, hji26⟩ : ∃ j_ : Int, (Int.tmod (wrap64 ((rd_T43 l1 x63_3).f1)) (l0.length : Int)) = j_ := ⟨_, rfl⟩
                          replace H : (if 0 ≤ (ji26) then (if (ji26) < (l0.length : Int) then (if 0 ≤ (Int.tmod (wrap64 ((rd_T43 l1 x63_3).f0)) (l0.length : Int)) then (if (Int.tmod (wrap64 ((rd_T43 l1 x63_3).f0)) (l0.length : Int)) < (l0.length : Int) then (if (l2.length : Int) = 0 then (none) else (if 0 ≤ (Int.tmod x63_3 (l2.length : Int)) then (if (Int.tmod x63_3 (l2.length : Int)) < (l2.length : Int) then (if x11_3.length < 2932031007402 then (merkhetlaw15_RelaxSure.l1 k3 l0 l2 (l0.length : Int) x8_2 (x11_3 ++ [(⟨Int.tmod (wrap64 ((rd_T43 l1 x63_3).f0)) (l0.length : Int), ji26, wrap64 ((wrap64 ((rd l0 (ji26)) - (rd l0 (Int.tmod (wrap64 ((rd_T43 l1 x63_3).f0)) (l0.length : Int))))) + (wrap64 (rd l2 (Int.tmod x63_3 (l2.length : Int))))), (⟨0, 0⟩ : S46), false⟩ : S48)]) l1 (l1.length : Int) (wrap64 (x63_3 + 1))) else (none)) else (none)) else (none))) else (none)) else (none)) else (none)) else (none)) = some r := by first | (rw [hji26] at H; exact H) | (simp only [hji26] at H ⊢; exact H)
                          by_cases c27 : 0 ≤ (ji26)
                          · rw [if_pos c27] at H
                            have c27b0 : decide (0 ≤ (ji26)) = true := decide_eq_true c27
                            clear c27
                            by_cases c28 : (ji26) < (l0.length : Int)
                            · rw [if_pos c28] at H
                              have c28b0 : decide ((ji26) < (l0.length : Int)) = true := decide_eq_true c28
                              clear c28
                              obtain ⟨ji29, hji29⟩ : ∃ j_ : Int, (Int.tmod (wrap64 ((rd_T43 l1 x63_3).f0)) (l0.length : Int)) = j_ := ⟨_, rfl⟩
                              replace H : (if 0 ≤ (ji29) then (if (ji29) < (l0.length : Int) then (if (l2.length : Int) = 0 then (none) else (if 0 ≤ (Int.tmod x63_3 (l2.length : Int)) then (if (Int.tmod x63_3 (l2.length : Int)) < (l2.length : Int) then (if x11_3.length < 2932031007402 then (merkhetlaw15_RelaxSure.l1 k3 l0 l2 (l0.length : Int) x8_2 (x11_3 ++ [(⟨ji29, ji26, wrap64 ((wrap64 ((rd l0 (ji26)) - (rd l0 (ji29)))) + (wrap64 (rd l2 (Int.tmod x63_3 (l2.length : Int))))), (⟨0, 0⟩ : S46), false⟩ : S48)]) l1 (l1.length : Int) (wrap64 (x63_3 + 1))) else (none)) else (none)) else (none))) else (none)) else (none)) = some r := by first | (rw [hji29] at H; exact H) | (simp only [hji29] at H ⊢; exact H)
                              by_cases c30 : 0 ≤ (ji29)
                              · rw [if_pos c30] at H
                                have c30b0 : decide (0 ≤ (ji29)) = true := decide_eq_true c30
                                clear c30
                                by_cases c31 : (ji29) < (l0.length : Int)
                                · rw [if_pos c31] at H
                                  have c31b0 : decide ((ji29) < (l0.length : Int)) = true := decide_eq_true c31
                                  clear c31
                                  by_cases c32 : (l2.length : Int) = 0
                                  · rw [if_pos c32] at H
                                    exact absurd H (by simp)
                                  · rw [if_neg c32] at H
                                    have c32b0 : ((l2.length : Int) == 0) = false := beq_eq_false_iff_ne.mpr c32
                                    have c32b1 : ((l2.length : Int) != 0) = true := bne_iff_ne.mpr c32
                                    have c32b2 : ¬ (l2 = []) := fun h_ => c32 (by rw [h_]; rfl)
                                    obtain ⟨ji33, hji33⟩ : ∃ j_ : Int, (Int.tmod x63_3 (l2.length : Int)) = j_ := ⟨_, rfl⟩
                                    replace H : (if 0 ≤ (ji33) then (if (ji33) < (l2.length : Int) then (if x11_3.length < 2932031007402 then (merkhetlaw15_RelaxSure.l1 k3 l0 l2 (l0.length : Int) x8_2 (x11_3 ++ [(⟨ji29, ji26, wrap64 ((wrap64 ((rd l0 (ji26)) - (rd l0 (ji29)))) + (wrap64 (rd l2 (ji33)))), (⟨0, 0⟩ : S46), false⟩ : S48)]) l1 (l1.length : Int) (wrap64 (x63_3 + 1))) else (none)) else (none)) else (none)) = some r := by first | (rw [hji33] at H; exact H) | (simp only [hji33] at H ⊢; exact H)
                                    by_cases c34 : 0 ≤ (ji33)
                                    · rw [if_pos c34] at H
                                      have c34b0 : decide (0 ≤ (ji33)) = true := decide_eq_true c34
                                      clear c34
                                      by_cases c35 : (ji33) < (l2.length : Int)
                                      · rw [if_pos c35] at H
                                        have c35b0 : decide ((ji33) < (l2.length : Int)) = true := decide_eq_true c35
                                        clear c35
                                        by_cases c36 : x11_3.length < 2932031007402
                                        · rw [if_pos c36] at H
                                          have LMc36 := Aside0.mk c36
                                          clear c36
                                          obtain ⟨y299, hy299⟩ : ∃ y_ : List (S48), y_ = (x11_3 ++ [(⟨ji29, ji26, wrap64 ((wrap64 ((rd l0 (ji26)) - (rd l0 (ji29)))) + (wrap64 (rd l2 (ji33)))), (⟨0, 0⟩ : S46), false⟩ : S48)]) := ⟨_, rfl⟩
                                          replace H : (merkhetlaw15_RelaxSure.l1 k3 l0 l2 (l0.length : Int) x8_2 y299 l1 (l1.length : Int) (wrap64 (x63_3 + 1))) = some r := by first | (rw [hy299]; with_reducible exact H) | (have H2_ := (Option.bind_some _ _).symm.trans H; rw [hy299]; with_reducible exact H2_) | (have H2_ := (Option.bind_some _ _).symm.trans H; with_reducible exact H2_) | with_reducible exact H | (rw [hy299]; exact H) | exact H
                                          have Ny299 := Aside0.mk hy299
                                          clear hy299
                                          have H' := Aside0.mk H
                                          clear H
                                          have p294 : 0 ≤ (x63_3 : Int) := of_decide_eq_true (by first | (with_reducible assumption) | assumption)
                                          have q294 : x63_3 < (l1.length : Int) := of_decide_eq_true (by first | (with_reducible assumption) | assumption)
                                          obtain ⟨ad294, e294, hx294_0, hx294_1⟩ := at_T43 HR1.out x63_3 p294 q294
                                          cases e294
                                          replace hx294_0 := (HB.out.cell (World.block_lt_of_cell? w _ hx294_0)).trans hx294_0
                                          replace hx294_1 := (HB.out.cell (World.block_lt_of_cell? w _ hx294_1)).trans hx294_1
                                          replace p294 := eq_true p294
                                          replace q294 := eq_true q294
                                          try go_wp2_with (first | ((with_reducible refine gate_dst (N := 13) rfl ?_); (try (refine gate_guard (by rfl) ?_; dsimp only)); refine box_event ?hg (N := 13) ?hd (cs := #[.int .u8 0, .int .u8 0]) (t := 43) ?hr ?_; (case hd => rfl); (case hg => rfl); (case hr => first | (go_simp; done) | (go_simp; rfl)); intro gb295 hg w37 hbox hb; have n0_ := Aside0.mk (Kd.R_below (by (with_reducible repeat (first | apply Kd.R_alloc | apply Kd.R_drewN | apply Kd.R_drew)); exact HO_11.out) hb); have n1_ := Aside0.mk (below_step (by repeat (first | (with_reducible first | exact HB.out | apply below_alloc | apply pw_below_drewN | apply below_drew1) | exact HB.out)) hb); have n2_ := Aside0.mk (hbox); have n3_ := Aside0.mk ((by rw [hg]; exact (below_size (by repeat (first | (with_reducible first | exact HB.out | apply below_alloc | apply pw_below_drewN | apply below_drew1) | exact HB.out))) : w.heap.size ≤ gb295)); have n4_ := Aside0.mk ((by rw [hg]; exact (below_size (by repeat (first | (with_reducible first | exact HB.out | apply below_alloc | apply pw_below_drewN | apply below_drew1) | exact HB.out))) : w.heap.size ≤ gb295)); clear HO_11; clear HB; have HO_11 := n0_; have HB := n1_; have BK295 := n2_; have GW295 := n3_; have GE295 := n4_; clear n0_ n1_ n2_ n3_ n4_; clear hb hbox hg; have hcz38_0 : w37.cell? ⟨gb295, 0, none⟩ = some (.int .u8 0) := (blk_cell BK295.out 0).trans rfl; have hcz38_1 : w37.cell? ⟨gb295, 1, none⟩ = some (.int .u8 0) := (blk_cell BK295.out 1).trans rfl; have hfz38_0 := blk_frozen BK295.out 0; have hfz38_1 := blk_frozen BK295.out 1))
                                          have n0_ : Aside0 (Kd.R k48 48 ((w37.setCell ⟨gb295, 0, none⟩ (.int .u8 ((rd_T43 l1 x63_3).f0))).setCell ⟨gb295, 1, none⟩ (.int .u8 ((rd_T43 l1 x63_3).f1))) w.heap.size (fun _ => True) u11 x11_3) := ⟨by (with_reducible repeat (first | apply Kd.R_alloc | apply Kd.R_drewN | apply Kd.R_drew)); exact Kd.R_mono (Kd.R_far (p := ⟨gb295, 1, none⟩) (Kd.R_far (p := ⟨gb295, 0, none⟩) (Kd.R_types HO_11.out BK295.out (by decide)) (fun _ hk => hk.2) (.int .u8 ((rd_T43 l1 x63_3).f0))) (fun _ hk => hk.2) (.int .u8 ((rd_T43 l1 x63_3).f1))) (fun _ hk => trivial)⟩
                                          have n1_ : Aside0 (((w37.setCell ⟨gb295, 0, none⟩ (.int .u8 ((rd_T43 l1 x63_3).f0))).setCell ⟨gb295, 1, none⟩ (.int .u8 ((rd_T43 l1 x63_3).f1))).heap[gb295]? = some (.cells #[.int .u8 ((rd_T43 l1 x63_3).f0), .int .u8 ((rd_T43 l1 x63_3).f1)] 43 (0, 0))) := ⟨by (with_reducible repeat (first | refine blk_drewN ?_ _ | refine blk_drew ?_ | refine blk_alloc ?_ _)); refine blk_put (cs := #[.int .u8 ((rd_T43 l1 x63_3).f0), .int .u8 0]) ?_ 1 _ rfl; (with_reducible repeat (first | refine blk_drewN ?_ _ | refine blk_drew ?_ | refine blk_alloc ?_ _)); refine blk_put (cs := #[.int .u8 0, .int .u8 0]) ?_ 0 _ rfl; (with_reducible repeat (first | refine blk_drewN ?_ _ | refine blk_drew ?_ | refine blk_alloc ?_ _)); exact BK295.out⟩
                                          have n2_ : Aside0 (Below w.heap.size w ((w37.setCell ⟨gb295, 0, none⟩ (.int .u8 ((rd_T43 l1 x63_3).f0))).setCell ⟨gb295, 1, none⟩ (.int .u8 ((rd_T43 l1 x63_3).f1)))) := ⟨by repeat (first | (with_reducible first | exact HB.out | apply below_alloc | apply pw_below_drewN | apply below_drew1 | refine below_set ?_ GE295.out) | exact HB.out)⟩
                                          (try clear HO_11)
                                          (try clear BK295)
                                          (try clear HB)
                                          generalize ((w37.setCell ⟨gb295, 0, none⟩ (.int .u8 ((rd_T43 l1 x63_3).f0))).setCell ⟨gb295, 1, none⟩ (.int .u8 ((rd_T43 l1 x63_3).f1))) = w39 at n0_ n1_ n2_ ⊢
                                          have HO_11 := n0_
                                          have BK295 := n1_
                                          have HB := n2_
                                          clear n0_ n1_ n2_
                                          (try (rw [drewN_self w39]; generalize hq_ : World.drewN w39 _ = w39; have n0_ : Aside0 (Kd.R k48 48 w39 w.heap.size (fun _ => True) u11 x11_3) := ⟨by rw [← hq_]; exact (by (with_reducible repeat (first | apply Kd.R_alloc | apply Kd.R_drewN | apply Kd.R_drew)); exact HO_11.out)⟩; have n1_ : Aside0 (w39.heap[gb295]? = some (.cells #[.int .u8 ((rd_T43 l1 x63_3).f0), .int .u8 ((rd_T43 l1 x63_3).f1)] 43 (0, 0))) := ⟨by rw [← hq_]; exact (by (with_reducible repeat (first | refine blk_drewN ?_ _ | refine blk_drew ?_ | refine blk_alloc ?_ _)); exact BK295.out)⟩; have n2_ : Aside0 (Below w.heap.size w w39) := ⟨by rw [← hq_]; exact (by repeat (first | (with_reducible first | exact HB.out | apply below_alloc | apply pw_below_drewN | apply below_drew1 | refine below_set ?_ GE295.out) | exact HB.out))⟩; clear HO_11 BK295 HB hq_; have HO_11 := n0_; have BK295 := n1_; have HB := n2_; clear n0_ n1_ n2_))
                                          have n0_ := Aside0.mk (Kd.R_drew HO_11.out)
                                          have n1_ := Aside0.mk (blk_drew BK295.out)
                                          have n2_ := Aside0.mk (below_drew1 HB.out)
                                          clear HO_11
                                          clear BK295
                                          clear HB
                                          have HO_11 := n0_
                                          have BK295 := n1_
                                          have HB := n2_
                                          clear n0_ n1_ n2_
                                          refine start_ (n := 12) (S := fun w' => w'.cell? ⟨gb295, 0, none⟩ = some (.int .u8 ((rd_T43 l1 x63_3).f0)) ∧ w'.cell? ⟨gb295, 1, none⟩ = some (.int .u8 ((rd_T43 l1 x63_3).f1))) (ds := []) #[false, false, false, false, false, false, false, false, false, false, false, false] (by kernel_rfl) rfl rfl ⟨(blk_cell BK295.out 0).trans rfl, (blk_cell BK295.out 1).trans rfl⟩ (fun hHeld => ?_); refine with_tabW merkhetlaw15_RelaxSure.tab16 merkhetlaw15_RelaxSure.bits16 (fun HT_ HW_ => ?_)
                                          generalize w39.drew = w40 at HO_11 BK295 HB hHeld ⊢
                                          refine pure_ (i := 0) (N := some 68) (v := ?_) (a' := ?_) #[true, false, false, false, false, false, false, false, false, false, false, false] rfl rfl (any_of HT_.out (by kernel_rfl)) (fun _ _ _ h => h) (Or.inl ⟨by rfl, ?_⟩) ?_ ?_
                                          rotate_left
                                          · intro w'
                                            go_simp
                                            with_reducible rfl
                                          rotate_left
                                          · simp only [Act.put, List.setIfInBounds_toArray, List.set_cons_zero, List.set_cons_succ, i64_w, i32_w]
                                            rfl
                                          refine pure_ (i := 3) (N := some 71) (v := ?_) (a' := ?_) #[true, false, false, true, false, false, false, false, false, false, false, false] rfl rfl (any_of HT_.out (by kernel_rfl)) (fun _ _ _ h => h) (Or.inl ⟨by rfl, ?_⟩) ?_ ?_
                                          rotate_left
                                          · intro w'
                                            go_simp
                                            with_reducible rfl
                                          rotate_left
                                          · simp only [Act.put, List.setIfInBounds_toArray, List.set_cons_zero, List.set_cons_succ, i64_w, i32_w]
                                            rfl
                                          refine pure_ (i := 5) (N := some 73) (v := ?_) (a' := ?_) #[true, false, false, true, false, true, false, false, false, false, false, false] rfl rfl (any_of HT_.out (by kernel_rfl)) (fun _ _ _ h => h) (Or.inl ⟨by rfl, ?_⟩) ?_ ?_
                                          rotate_left
                                          · intro w'
                                            go_simp
                                            with_reducible rfl
                                          rotate_left
                                          · simp only [Act.put, List.setIfInBounds_toArray, List.set_cons_zero, List.set_cons_succ, i64_w, i32_w]
                                            rfl
                                          refine pure_ (i := 8) (N := some 76) (v := ?_) (a' := ?_) #[true, false, false, true, false, true, false, false, true, false, false, false] rfl rfl (any_of HT_.out (by kernel_rfl)) (fun _ _ _ h => h) (Or.inl ⟨by rfl, ?_⟩) ?_ ?_
                                          rotate_left
                                          · intro w'
                                            go_simp
                                            with_reducible rfl
                                          rotate_left
                                          · simp only [Act.put, List.setIfInBounds_toArray, List.set_cons_zero, List.set_cons_succ, i64_w, i32_w]
                                            rfl
                                          refine take_ (i := 1) (N := some 69) (v := ?_) (a' := ?_) #[true, true, false, true, false, true, false, false, true, false, false, false] rfl rfl (take_ofW HT_.out HW_.out (by kernel_rfl)) (fun _ _ _ h => h) (Or.inl ⟨by rfl, ?_⟩) hHeld ?_ ?_
                                          rotate_left
                                          · rintro w' ⟨s0, s1⟩
                                            go_simp
                                            with_reducible rfl
                                          rotate_left
                                          · simp only [Act.put, List.setIfInBounds_toArray, List.set_cons_zero, List.set_cons_succ, i64_w, i32_w]
                                            rfl
                                          refine pure_ (i := 2) (N := some 70) (v := ?_) (a' := ?_) #[true, true, true, true, false, true, false, false, true, false, false, false] rfl rfl (any_of HT_.out (by kernel_rfl)) (fun _ _ _ h => h) (Or.inl ⟨by rfl, ?_⟩) ?_ ?_
                                          rotate_left
                                          · intro w'
                                            go_simp
                                            with_reducible rfl
                                          rotate_left
                                          · simp only [Act.put, List.setIfInBounds_toArray, List.set_cons_zero, List.set_cons_succ, i64_w, i32_w]
                                            rfl
                                          refine pure_ (i := 4) (N := some 72) (v := ?_) (a' := ?_) #[true, true, true, true, true, true, false, false, true, false, false, false] rfl rfl (any_of HT_.out (by kernel_rfl)) (fun _ _ _ h => h) (Or.inl ⟨by rfl, ?_⟩) ?_ ?_
                                          rotate_left
                                          · intro w'
                                            go_simp
                                            with_reducible rfl
                                          rotate_left
                                          · simp only [Act.put, List.setIfInBounds_toArray, List.set_cons_zero, List.set_cons_succ, i64_w, i32_w]
                                            rfl
                                          refine pure_ (i := 10) (N := some 14) (v := ?_) (a' := ?_) #[true, true, true, true, true, true, false, false, true, false, true, false] rfl rfl (any_of HT_.out (by kernel_rfl)) (fun _ _ _ h => h) (Or.inl ⟨by rfl, ?_⟩) ?_ ?_
                                          rotate_left
                                          · intro w'
                                            go_simp
                                            with_reducible rfl
                                          rotate_left
                                          · simp only [Act.put, List.setIfInBounds_toArray, List.set_cons_zero, List.set_cons_succ, i64_w, i32_w]
                                            rfl
                                          refine take_ (i := 6) (N := some 74) (v := ?_) (a' := ?_) #[true, true, true, true, true, true, true, false, true, false, true, false] rfl rfl (take_ofW HT_.out HW_.out (by kernel_rfl)) (fun _ _ _ h => h) (Or.inl ⟨by rfl, ?_⟩) hHeld ?_ ?_
                                          rotate_left
                                          · rintro w' ⟨s0, s1⟩
                                            go_simp
                                            with_reducible rfl
                                          rotate_left
                                          · simp only [Act.put, List.setIfInBounds_toArray, List.set_cons_zero, List.set_cons_succ, i64_w, i32_w]
                                            rfl
                                          refine pure_ (i := 7) (N := some 75) (v := ?_) (a' := ?_) #[true, true, true, true, true, true, true, true, true, false, true, false] rfl rfl (any_of HT_.out (by kernel_rfl)) (fun _ _ _ h => h) (Or.inl ⟨by rfl, ?_⟩) ?_ ?_
                                          rotate_left
                                          · intro w'
                                            go_simp
                                            with_reducible rfl
                                          rotate_left
                                          · simp only [Act.put, List.setIfInBounds_toArray, List.set_cons_zero, List.set_cons_succ, i64_w, i32_w]
                                            rfl
                                          refine pure_ (i := 9) (N := some 77) (v := ?_) (a' := ?_) #[true, true, true, true, true, true, true, true, true, true, true, false] rfl rfl (any_of HT_.out (by kernel_rfl)) (fun _ _ _ h => h) (Or.inl ⟨by rfl, ?_⟩) ?_ ?_
                                          rotate_left
                                          · intro w'
                                            go_simp
                                            with_reducible rfl
                                          rotate_left
                                          · simp only [Act.put, List.setIfInBounds_toArray, List.set_cons_zero, List.set_cons_succ, i64_w, i32_w]
                                            rfl
                                          refine pure_ (i := 11) (N := some 15) (v := ?_) (a' := ?_) #[true, true, true, true, true, true, true, true, true, true, true, true] rfl rfl (any_of HT_.out (by kernel_rfl)) (fun _ _ _ h => h) (Or.inl ⟨by rfl, ?_⟩) ?_ ?_
                                          rotate_left
                                          · intro w'
                                            go_simp
                                            with_reducible rfl
                                          rotate_left
                                          · simp only [Act.put, List.setIfInBounds_toArray, List.set_cons_zero, List.set_cons_succ, i64_w, i32_w]
                                            rfl
                                          refine done_ (done_of HT_.out (by kernel_rfl)) ?_
                                          try go_wp2
                                          (try (rw [drewN_self w40]; generalize hq_ : World.drewN w40 _ = w40; have n0_ : Aside0 (Kd.R k48 48 w40 w.heap.size (fun _ => True) u11 x11_3) := ⟨by rw [← hq_]; exact (by (with_reducible repeat (first | apply Kd.R_alloc | apply Kd.R_drewN | apply Kd.R_drew)); exact HO_11.out)⟩; have n1_ : Aside0 (w40.heap[gb295]? = some (.cells #[.int .u8 ((rd_T43 l1 x63_3).f0), .int .u8 ((rd_T43 l1 x63_3).f1)] 43 (0, 0))) := ⟨by rw [← hq_]; exact (by (with_reducible repeat (first | refine blk_drewN ?_ _ | refine blk_drew ?_ | refine blk_alloc ?_ _)); exact BK295.out)⟩; have n2_ : Aside0 (Below w.heap.size w w40) := ⟨by rw [← hq_]; exact (by repeat (first | (with_reducible first | exact HB.out | apply below_alloc | apply pw_below_drewN | apply below_drew1 | refine below_set ?_ GE295.out) | exact HB.out))⟩; clear HO_11 BK295 HB hq_; have HO_11 := n0_; have BK295 := n1_; have HB := n2_; clear n0_ n1_ n2_))
                                          have n0_ := Aside0.mk (Kd.R_drew HO_11.out)
                                          have n1_ := Aside0.mk (blk_drew BK295.out)
                                          have n2_ := Aside0.mk (below_drew1 HB.out)
                                          clear HO_11
                                          clear BK295
                                          clear HB
                                          have HO_11 := n0_
                                          have BK295 := n1_
                                          have HB := n2_
                                          clear n0_ n1_ n2_
                                          have p296 : 0 ≤ ((ji26) : Int) := of_decide_eq_true (by first | (with_reducible assumption) | assumption)
                                          have q296 : (ji26) < (l0.length : Int) := of_decide_eq_true (by first | (with_reducible assumption) | assumption)
                                          obtain ⟨ad296, e296, hx296_0⟩ := Kd.at_int HR0.out (ji26) p296 q296
                                          have hw296_0 := hx296_0
                                          cases e296
                                          replace hx296_0 := (HB.out.cell (World.block_lt_of_cell? w _ hx296_0)).trans hx296_0
                                          replace p296 := eq_true p296
                                          replace q296 := eq_true q296
                                          have p297 : 0 ≤ ((ji29) : Int) := of_decide_eq_true (by first | (with_reducible assumption) | assumption)
                                          have q297 : (ji29) < (l0.length : Int) := of_decide_eq_true (by first | (with_reducible assumption) | assumption)
                                          obtain ⟨ad297, e297, hx297_0⟩ := Kd.at_int HR0.out (ji29) p297 q297
                                          have hw297_0 := hx297_0
                                          obtain rfl : ad296 = ad297 := (by injection e297)
                                          replace hx297_0 := (HB.out.cell (World.block_lt_of_cell? w _ hx297_0)).trans hx297_0
                                          replace p297 := eq_true p297
                                          replace q297 := eq_true q297
                                          have p298 : 0 ≤ ((ji33) : Int) := of_decide_eq_true (by first | (with_reducible assumption) | assumption)
                                          have q298 : (ji33) < (l2.length : Int) := of_decide_eq_true (by first | (with_reducible assumption) | assumption)
                                          obtain ⟨ad298, e298, hx298_0⟩ := Kd.at_int HR2.out (ji33) p298 q298
                                          have hw298_0 := hx298_0
                                          cases e298
                                          replace hx298_0 := (HB.out.cell (World.block_lt_of_cell? w _ hx298_0)).trans hx298_0
                                          replace p298 := eq_true p298
                                          replace q298 := eq_true q298
                                          refine start_ (n := 25) (S := fun w' => w'.cell? (ad296.add ((ji26)).toNat) = some (.int .i64 (rd l0 (ji26))) ∧ w'.cell? (ad296.add ((ji29)).toNat) = some (.int .i64 (rd l0 (ji29))) ∧ w'.cell? (ad298.add ((ji33)).toNat) = some (.int .u32 (rd l2 (ji33)))) (ds := []) #[false, false, false, false, false, false, false, false, false, false, false, false, false, false, false, false, false, false, false, false, false, false, false, false, false] (by kernel_rfl) rfl rfl ⟨((HB.out.cell (World.block_lt_of_cell? w _ hw296_0)).trans hw296_0), ((HB.out.cell (World.block_lt_of_cell? w _ hw297_0)).trans hw297_0), ((HB.out.cell (World.block_lt_of_cell? w _ hw298_0)).trans hw298_0)⟩ (fun hHeld => ?_); refine with_tabW merkhetlaw15_RelaxSure.tab17 merkhetlaw15_RelaxSure.bits17 (fun HT_ HW_ => ?_)
                                          generalize w40.drew = w41 at HO_11 BK295 HB hx296_0 hx297_0 hx298_0 hHeld ⊢
                                          refine pure_ (i := 0) (N := some 78) (v := ?_) (a' := ?_) #[true, false, false, false, false, false, false, false, false, false, false, false, false, false, false, false, false, false, false, false, false, false, false, false, false] rfl rfl (any_of HT_.out (by kernel_rfl)) (fun _ _ _ h => h) (Or.inl ⟨by rfl, ?_⟩) ?_ ?_
                                          rotate_left
                                          · intro w'
                                            go_simp
                                            with_reducible rfl
                                          rotate_left
                                          · simp only [Act.put, List.setIfInBounds_toArray, List.set_cons_zero, List.set_cons_succ, i64_w, i32_w]
                                            rfl
                                          refine pure_ (i := 1) (N := some 79) (v := ?_) (a' := ?_) #[true, true, false, false, false, false, false, false, false, false, false, false, false, false, false, false, false, false, false, false, false, false, false, false, false] rfl rfl (any_of HT_.out (by kernel_rfl)) (fun _ _ _ h => h) (Or.inl ⟨by rfl, ?_⟩) ?_ ?_
                                          rotate_left
                                          · intro w'
                                            go_simp
                                            with_reducible rfl
                                          rotate_left
                                          · simp only [Act.put, List.setIfInBounds_toArray, List.set_cons_zero, List.set_cons_succ, i64_w, i32_w]
                                            rfl
                                          refine pure_ (i := 2) (N := some 80) (v := ?_) (a' := ?_) #[true, true, true, false, false, false, false, false, false, false, false, false, false, false, false, false, false, false, false, false, false, false, false, false, false] rfl rfl (any_of HT_.out (by kernel_rfl)) (fun _ _ _ h => h) (Or.inl ⟨by rfl, ?_⟩) ?_ ?_
                                          rotate_left
                                          · intro w'
                                            go_simp
                                            with_reducible rfl
                                          rotate_left
                                          · simp only [Act.put, List.setIfInBounds_toArray, List.set_cons_zero, List.set_cons_succ, i64_w, i32_w]
                                            rfl
                                          refine pure_ (i := 3) (N := some 81) (v := ?_) (a' := ?_) #[true, true, true, true, false, false, false, false, false, false, false, false, false, false, false, false, false, false, false, false, false, false, false, false, false] rfl rfl (any_of HT_.out (by kernel_rfl)) (fun _ _ _ h => h) (Or.inl ⟨by rfl, ?_⟩) ?_ ?_
                                          rotate_left
                                          · intro w'
                                            go_simp
                                            with_reducible rfl
                                          rotate_left
                                          · simp only [Act.put, List.setIfInBounds_toArray, List.set_cons_zero, List.set_cons_succ, i64_w, i32_w]
                                            rfl
                                          refine pure_ (i := 4) (N := some 82) (v := ?_) (a' := ?_) #[true, true, true, true, true, false, false, false, false, false, false, false, false, false, false, false, false, false, false, false, false, false, false, false, false] rfl rfl (any_of HT_.out (by kernel_rfl)) (fun _ _ _ h => h) (Or.inl ⟨by rfl, ?_⟩) ?_ ?_
                                          rotate_left
                                          · intro w'
                                            go_simp
                                            with_reducible rfl
                                          rotate_left
                                          · simp only [Act.put, List.setIfInBounds_toArray, List.set_cons_zero, List.set_cons_succ, i64_w, i32_w]
                                            rfl
                                          refine pure_ (i := 5) (N := some 83) (v := ?_) (a' := ?_) #[true, true, true, true, true, true, false, false, false, false, false, false, false, false, false, false, false, false, false, false, false, false, false, false, false] rfl rfl (any_of HT_.out (by kernel_rfl)) (fun _ _ _ h => h) (Or.inl ⟨by rfl, ?_⟩) ?_ ?_
                                          rotate_left
                                          · intro w'
                                            go_simp
                                            with_reducible rfl
                                          rotate_left
                                          · simp only [Act.put, List.setIfInBounds_toArray, List.set_cons_zero, List.set_cons_succ, i64_w, i32_w]
                                            rfl
                                          refine pure_ (i := 7) (N := some 85) (v := ?_) (a' := ?_) #[true, true, true, true, true, true, false, true, false, false, false, false, false, false, false, false, false, false, false, false, false, false, false, false, false] rfl rfl (any_of HT_.out (by kernel_rfl)) (fun _ _ _ h => h) (Or.inl ⟨by rfl, ?_⟩) ?_ ?_
                                          rotate_left
                                          · intro w'
                                            go_simp
                                            with_reducible rfl
                                          rotate_left
                                          · simp only [Act.put, List.setIfInBounds_toArray, List.set_cons_zero, List.set_cons_succ, i64_w, i32_w]
                                            rfl
                                          refine pure_ (i := 8) (N := some 86) (v := ?_) (a' := ?_) #[true, true, true, true, true, true, false, true, true, false, false, false, false, false, false, false, false, false, false, false, false, false, false, false, false] rfl rfl (any_of HT_.out (by kernel_rfl)) (fun _ _ _ h => h) (Or.inl ⟨by rfl, ?_⟩) ?_ ?_
                                          rotate_left
                                          · intro w'
                                            go_simp
                                            with_reducible rfl
                                          rotate_left
                                          · simp only [Act.put, List.setIfInBounds_toArray, List.set_cons_zero, List.set_cons_succ, i64_w, i32_w]
                                            rfl
                                          refine pure_ (i := 9) (N := some 87) (v := ?_) (a' := ?_) #[true, true, true, true, true, true, false, true, true, true, false, false, false, false, false, false, false, false, false, false, false, false, false, false, false] rfl rfl (any_of HT_.out (by kernel_rfl)) (fun _ _ _ h => h) (Or.inl ⟨by rfl, ?_⟩) ?_ ?_
                                          rotate_left
                                          · intro w'
                                            go_simp
                                            with_reducible rfl
                                          rotate_left
                                          · simp only [Act.put, List.setIfInBounds_toArray, List.set_cons_zero, List.set_cons_succ, i64_w, i32_w]
                                            rfl
                                          refine pure_ (i := 12) (N := some 90) (v := ?_) (a' := ?_) #[true, true, true, true, true, true, false, true, true, true, false, false, true, false, false, false, false, false, false, false, false, false, false, false, false] rfl rfl (any_of HT_.out (by kernel_rfl)) (fun _ _ _ h => h) (Or.inl ⟨by rfl, ?_⟩) ?_ ?_
                                          rotate_left
                                          · intro w'
                                            go_simp
                                            with_reducible rfl
                                          rotate_left
                                          · simp only [Act.put, List.setIfInBounds_toArray, List.set_cons_zero, List.set_cons_succ, i64_w, i32_w]
                                            rfl
                                          refine pure_ (i := 13) (N := some 91) (v := ?_) (a' := ?_) #[true, true, true, true, true, true, false, true, true, true, false, false, true, true, false, false, false, false, false, false, false, false, false, false, false] rfl rfl (any_of HT_.out (by kernel_rfl)) (fun _ _ _ h => h) (Or.inl ⟨by rfl, ?_⟩) ?_ ?_
                                          rotate_left
                                          · intro w'
                                            go_simp
                                            with_reducible rfl
                                          rotate_left
                                          · simp only [Act.put, List.setIfInBounds_toArray, List.set_cons_zero, List.set_cons_succ, i64_w, i32_w]
                                            rfl
                                          refine pure_ (i := 14) (N := some 92) (v := ?_) (a' := ?_) #[true, true, true, true, true, true, false, true, true, true, false, false, true, true, true, false, false, false, false, false, false, false, false, false, false] rfl rfl (any_of HT_.out (by kernel_rfl)) (fun _ _ _ h => h) (Or.inl ⟨by rfl, ?_⟩) ?_ ?_
                                          rotate_left
                                          · intro w'
                                            go_simp
                                            with_reducible rfl
                                          rotate_left
                                          · simp only [Act.put, List.setIfInBounds_toArray, List.set_cons_zero, List.set_cons_succ, i64_w, i32_w]
                                            rfl
                                          refine pure_ (i := 15) (N := some 93) (v := ?_) (a' := ?_) #[true, true, true, true, true, true, false, true, true, true, false, false, true, true, true, true, false, false, false, false, false, false, false, false, false] rfl rfl (any_of HT_.out (by kernel_rfl)) (fun _ _ _ h => h) (Or.inl ⟨by rfl, ?_⟩) ?_ ?_
                                          rotate_left
                                          · intro w'
                                            go_simp
                                            with_reducible rfl
                                          rotate_left
                                          · simp only [Act.put, List.setIfInBounds_toArray, List.set_cons_zero, List.set_cons_succ, i64_w, i32_w]
                                            rfl
                                          refine pure_ (i := 16) (N := some 94) (v := ?_) (a' := ?_) #[true, true, true, true, true, true, false, true, true, true, false, false, true, true, true, true, true, false, false, false, false, false, false, false, false] rfl rfl (any_of HT_.out (by kernel_rfl)) (fun _ _ _ h => h) (Or.inl ⟨by rfl, ?_⟩) ?_ ?_
                                          rotate_left
                                          · intro w'
                                            go_simp
                                            with_reducible rfl
                                          rotate_left
                                          · simp only [Act.put, List.setIfInBounds_toArray, List.set_cons_zero, List.set_cons_succ, i64_w, i32_w]
                                            rfl
                                          refine pure_ (i := 17) (N := some 95) (v := ?_) (a' := ?_) #[true, true, true, true, true, true, false, true, true, true, false, false, true, true, true, true, true, true, false, false, false, false, false, false, false] rfl rfl (any_of HT_.out (by kernel_rfl)) (fun _ _ _ h => h) (Or.inl ⟨by rfl, ?_⟩) ?_ ?_
                                          rotate_left
                                          · intro w'
                                            go_simp
                                            with_reducible rfl
                                          rotate_left
                                          · simp only [Act.put, List.setIfInBounds_toArray, List.set_cons_zero, List.set_cons_succ, i64_w, i32_w]
                                            rfl
                                          refine take_ (i := 6) (N := some 84) (v := ?_) (a' := ?_) #[true, true, true, true, true, true, true, true, true, true, false, false, true, true, true, true, true, true, false, false, false, false, false, false, false] rfl rfl (take_ofW HT_.out HW_.out (by kernel_rfl)) (fun _ _ _ h => h) (Or.inl ⟨by rfl, ?_⟩) hHeld ?_ ?_
                                          rotate_left
                                          · rintro w' ⟨s0, s1, s2⟩
                                            go_simp
                                            with_reducible rfl
                                          rotate_left
                                          · simp only [Act.put, List.setIfInBounds_toArray, List.set_cons_zero, List.set_cons_succ, i64_w, i32_w]
                                            rfl
                                          refine take_ (i := 10) (N := some 88) (v := ?_) (a' := ?_) #[true, true, true, true, true, true, true, true, true, true, true, false, true, true, true, true, true, true, false, false, false, false, false, false, false] rfl rfl (take_ofW HT_.out HW_.out (by kernel_rfl)) (fun _ _ _ h => h) (Or.inl ⟨by rfl, ?_⟩) hHeld ?_ ?_
                                          rotate_left
                                          · rintro w' ⟨s0, s1, s2⟩
                                            go_simp
                                            with_reducible rfl
                                          rotate_left
                                          · simp only [Act.put, List.setIfInBounds_toArray, List.set_cons_zero, List.set_cons_succ, i64_w, i32_w]
                                            rfl
                                          refine pure_ (i := 11) (N := some 89) (v := ?_) (a' := ?_) #[true, true, true, true, true, true, true, true, true, true, true, true, true, true, true, true, true, true, false, false, false, false, false, false, false] rfl rfl (any_of HT_.out (by kernel_rfl)) (fun _ _ _ h => h) (Or.inl ⟨by rfl, ?_⟩) ?_ ?_
                                          rotate_left
                                          · intro w'
                                            go_simp
                                            with_reducible rfl
                                          rotate_left
                                          · simp only [Act.put, List.setIfInBounds_toArray, List.set_cons_zero, List.set_cons_succ, i64_w, i32_w]
                                            rfl
                                          refine take_ (i := 18) (N := some 96) (v := ?_) (a' := ?_) #[true, true, true, true, true, true, true, true, true, true, true, true, true, true, true, true, true, true, true, false, false, false, false, false, false] rfl rfl (take_ofW HT_.out HW_.out (by kernel_rfl)) (fun _ _ _ h => h) (Or.inl ⟨by rfl, ?_⟩) hHeld ?_ ?_
                                          rotate_left
                                          · rintro w' ⟨s0, s1, s2⟩
                                            go_simp
                                            with_reducible rfl
                                          rotate_left
                                          · simp only [Act.put, List.setIfInBounds_toArray, List.set_cons_zero, List.set_cons_succ, i64_w, i32_w]
                                            rfl
                                          refine pure_ (i := 19) (N := some 97) (v := ?_) (a' := ?_) #[true, true, true, true, true, true, true, true, true, true, true, true, true, true, true, true, true, true, true, true, false, false, false, false, false] rfl rfl (any_of HT_.out (by kernel_rfl)) (fun _ _ _ h => h) (Or.inl ⟨by rfl, ?_⟩) ?_ ?_
                                          rotate_left
                                          · intro w'
                                            go_simp
                                            with_reducible rfl
                                          rotate_left
                                          · simp only [Act.put, List.setIfInBounds_toArray, List.set_cons_zero, List.set_cons_succ, i64_w, i32_w]
                                            rfl
                                          refine pure_ (i := 20) (N := some 98) (v := ?_) (a' := ?_) #[true, true, true, true, true, true, true, true, true, true, true, true, true, true, true, true, true, true, true, true, true, false, false, false, false] rfl rfl (any_of HT_.out (by kernel_rfl)) (fun _ _ _ h => h) (Or.inl ⟨by rfl, ?_⟩) ?_ ?_
                                          rotate_left
                                          · intro w'
                                            go_simp
                                            with_reducible rfl
                                          rotate_left
                                          · simp only [Act.put, List.setIfInBounds_toArray, List.set_cons_zero, List.set_cons_succ, i64_w, i32_w]
                                            rfl
                                          refine pure_ (i := 21) (N := some 99) (v := ?_) (a' := ?_) #[true, true, true, true, true, true, true, true, true, true, true, true, true, true, true, true, true, true, true, true, true, true, false, false, false] rfl rfl (any_of HT_.out (by kernel_rfl)) (fun _ _ _ h => h) (Or.inl ⟨by rfl, ?_⟩) ?_ ?_
                                          rotate_left
                                          · intro w'
                                            go_simp
                                            with_reducible rfl
                                          rotate_left
                                          · simp only [Act.put, List.setIfInBounds_toArray, List.set_cons_zero, List.set_cons_succ, i64_w, i32_w]
                                            rfl
                                          refine one_ (i := 22) (N := some 100) #[true, true, true, true, true, true, true, true, true, true, true, true, true, true, true, true, true, true, true, true, true, true, true, false, false] rfl rfl (one_of HT_.out (by kernel_rfl)) (by decide) (fun K hK => ?_)
                                          refine value_ (w1 := ?_) (v := ?_) (by rfl) rfl ?_ ?_
                                          rotate_left 2
                                          · go_simp
                                            constructor
                                            · rfl
                                            · rfl
                                          refine hK.out _ _ ⟨(World.cell?_alloc_lt _ _ _ (World.block_lt_of_cell? _ _ (((HB.out.cell (World.block_lt_of_cell? w _ hw296_0)).trans hw296_0)))).trans (((HB.out.cell (World.block_lt_of_cell? w _ hw296_0)).trans hw296_0)), (World.cell?_alloc_lt _ _ _ (World.block_lt_of_cell? _ _ (((HB.out.cell (World.block_lt_of_cell? w _ hw297_0)).trans hw297_0)))).trans (((HB.out.cell (World.block_lt_of_cell? w _ hw297_0)).trans hw297_0)), (World.cell?_alloc_lt _ _ _ (World.block_lt_of_cell? _ _ (((HB.out.cell (World.block_lt_of_cell? w _ hw298_0)).trans hw298_0)))).trans (((HB.out.cell (World.block_lt_of_cell? w _ hw298_0)).trans hw298_0))⟩ (fun hHeld => ?_)
                                          clear hK K
                                          refine norm_ (a' := ?_) ?_ ?_
                                          rotate_left
                                          · show Act.put _ (some 100) _ = _
                                            simp only [Act.put, List.setIfInBounds_toArray, List.set_cons_zero, List.set_cons_succ, i64_w, i32_w]
                                            rfl
                                          refine one_ (i := 23) (N := some 101) #[true, true, true, true, true, true, true, true, true, true, true, true, true, true, true, true, true, true, true, true, true, true, true, true, false] rfl rfl (one_of HT_.out (by kernel_rfl)) (by decide) (fun K hK => ?_)
                                          refine Kd.R_append_step k48 (w0 := w) w.heap.size (by rfl) (.tmp 78) (.tmp 100) 22 48 (.agg #[(.int .i64 0), (.int .i64 0), (.int .i64 0), (.int .i64 0), (.int .i64 0), (.bool false)]) 48 rfl Try.underlying22 info48 rfl (by decide) (by omega) u11 x11_3 (⟨ji29, ji26, wrap64 ((wrap64 ((rd l0 (ji26)) - (rd l0 (ji29)))) + (wrap64 (rd l2 (ji33)))), (⟨0, 0⟩ : S46), false⟩ : S48) [.int .i64 ji29, .int .i64 ji26, .int .i64 (wrap64 ((wrap64 ((rd l0 (ji26)) - (rd l0 (ji29)))) + (wrap64 (rd l2 (ji33))))), .int .i64 0, .int .i64 0, .bool false] (fun _ => True) (fun _ => False) rfl rfl ?aP (fun _ hk => hk.elim) ?aF ?aO ?aB ?aS ?aL ?_
                                          (case aP => exact k48_mkM _ _ _ (⟨ji29, ji26, wrap64 ((wrap64 ((rd l0 (ji26)) - (rd l0 (ji29)))) + (wrap64 (rd l2 (ji33)))), (⟨0, 0⟩ : S46), false⟩ : S48))
                                          (case aB => exact (by repeat (first | (with_reducible first | exact HB.out | apply below_alloc | apply pw_below_drewN | apply below_drew1 | refine below_set ?_ GE295.out) | exact HB.out)))
                                          (case aF => exact (fun _ _ => trivial))
                                          (case aO => exact (by (with_reducible repeat (first | apply Kd.R_alloc | apply Kd.R_drewN | apply Kd.R_drew)); exact HO_11.out))
                                          (case aS => exact (below_size (by repeat (first | (with_reducible first | exact HB.out | apply below_alloc | apply pw_below_drewN | apply below_drew1 | refine below_set ?_ GE295.out) | exact HB.out))))
                                          (case aL => have := LMc36.out; omega)
                                          intro v300 w42 ho hb hg hat
                                          rw [← Ny299.out] at ho
                                          have n0_ := Aside0.mk (blk_grown (g := gb295) (o := .cells #[.int .u8 ((rd_T43 l1 x63_3).f0), .int .u8 ((rd_T43 l1 x63_3).f1)] 43 (0, 0)) (by (with_reducible repeat (first | refine blk_drewN ?_ _ | refine blk_drew ?_ | refine blk_alloc ?_ _)); exact BK295.out) hg (Kd.R_ne HO_11.out BK295.out (by decide)))
                                          have n1_ := Aside0.mk (hb)
                                          have n2_ := Aside0.mk (ho)
                                          clear BK295
                                          clear HB
                                          clear HO_11
                                          have BK295 := n0_
                                          have HB := n1_
                                          have HO301 := n2_
                                          clear n0_ n1_ n2_
                                          clear ho hb hg hat
                                          refine hK.out _ _ ⟨((HB.out.cell (World.block_lt_of_cell? w _ hw296_0)).trans hw296_0), ((HB.out.cell (World.block_lt_of_cell? w _ hw297_0)).trans hw297_0), ((HB.out.cell (World.block_lt_of_cell? w _ hw298_0)).trans hw298_0)⟩ (fun hHeld => ?_)
                                          clear hK K
                                          refine norm_ (a' := ?_) ?_ ?_
                                          rotate_left
                                          · show Act.put _ (some 101) _ = _
                                            simp only [Act.put, List.setIfInBounds_toArray, List.set_cons_zero, List.set_cons_succ, i64_w, i32_w]
                                            rfl
                                          refine pure_ (i := 24) (N := some 11) (v := ?_) (a' := ?_) #[true, true, true, true, true, true, true, true, true, true, true, true, true, true, true, true, true, true, true, true, true, true, true, true, true] rfl rfl (any_of HT_.out (by kernel_rfl)) (fun _ _ _ h => h) (Or.inl ⟨by rfl, ?_⟩) ?_ ?_
                                          rotate_left
                                          · intro w'
                                            go_simp
                                            with_reducible rfl
                                          rotate_left
                                          · simp only [Act.put, List.setIfInBounds_toArray, List.set_cons_zero, List.set_cons_succ, i64_w, i32_w]
                                            rfl
                                          refine done_ (done_of HT_.out (by kernel_rfl)) ?_
                                          try go_wp2
                                          go_roundg k3
                                          case measure => have := HJ3.out; have := HK2.out; have := HK3.out; omega
                                          case rel => exact ⟨(y299), (wrap64 (x63_3 + 1)), (by first | rfl | (simp; done) | (simp [*]; done)), H', ⟨by have := HJ3.out; have := HK2.out; have := HK3.out; omega⟩, ⟨by (with_reducible repeat (first | apply Kd.R_alloc | apply Kd.R_drewN | apply Kd.R_drew)); exact HO301.out⟩, ⟨by repeat (first | (with_reducible first | exact HB.out | apply below_alloc | apply pw_below_drewN | apply below_drew1 | refine below_set ?_ GE295.out) | exact HB.out)⟩⟩
                                        · rw [if_neg c36] at H
                                          exact absurd H (by simp)
                                      · rw [if_neg c35] at H
                                        exact absurd H (by simp)
                                    · rw [if_neg c34] at H
                                      exact absurd H (by simp)
                                · rw [if_neg c31] at H
                                  exact absurd H (by simp)
                              · rw [if_neg c30] at H
                                exact absurd H (by simp)
                            · rw [if_neg c28] at H
                              exact absurd H (by simp)
                          · rw [if_neg c27] at H
                            exact absurd H (by simp)
                      · rw [if_neg c24] at H
                        exact absurd H (by simp)
                    · rw [if_neg c23] at H
                      exact absurd H (by simp)
                  · rw [if_neg c22] at H
                    have c22b0 : decide (x63_3 < (l1.length : Int)) = false := decide_eq_false c22
                    clear c22
                    replace H := Option.bind_eq_some_iff.mp H
                    obtain ⟨⟨t302, t305⟩, A430, H⟩ := H
                    replace H : (if t305 = true then (if (t302.length : Int) = (l0.length : Int) then ((merkhetref14_All.f k3 x11_3 t302).bind fun t306 => (merkhetlaw15_RelaxSure.j3 k3 l0 x8_2 t302 (!t306))) else (merkhetlaw15_RelaxSure.j3 k3 l0 x8_2 t302 true)) else (merkhetlaw15_RelaxSure.j3 k3 l0 x8_2 t302 true)) = some r := H
                    have A43 := Aside0.mk A430
                    clear A430
                    have HC44 := Aside0.mk H
                    clear H
                    obtain ⟨Ao45, co45, eo45⟩ := Kd.R_slice HO_11.out
                    subst eo45
                    go_upto_region 20 with (first | ((with_reducible refine gate_callee (f := 27) rfl ?_); refine goesL_ (some 106) rfl rfl Try.func27 (by kernel_rfl) rfl #[.int .i64 (l0.length : Int), .slice Ao45 x11_3.length co45] rfl (by (try simp only [List.map_toArray, List.map_cons, List.map_nil]); first | done | rfl | (simp only [List.length_drop, List.length_take]; rfl)) ?_; (with_reducible refine (relax_Solve.calls k3 (l0.length : Int) _ _ x11_3 t302 t305 _ ?side1 ?side2 A43.out).mono ?_); (case side1 => repeat (first | exact (Kd.R_reads' HO_11.out).2.2 | (with_reducible refine Kd.C_alloc ?_ _) | (with_reducible refine Kd.C_drewN ?_ _) | (with_reducible refine Kd.C_drew ?_))); (case side2 => exact (Kd.R_reads' HO_11.out).2.1); rintro e w46 ⟨v303, rfl, ho0, hb⟩; refine ⟨_, rfl, ?_⟩; have n0_ := Aside0.mk (Kd.R_below (by (with_reducible repeat (first | apply Kd.R_alloc | apply Kd.R_drewN | apply Kd.R_drew)); exact HO_11.out) hb); have n1_ := Aside0.mk (Kd.V_lower (Kd.V_mono (ok' := fun k_ => some k_ ≠ (.slice Ao45 x11_3.length co45 : Value).ownBlock) ho0 (fun k_ hk_ => (Kd.fresh' (Kd.R_lt (by (with_reducible repeat (first | apply Kd.R_alloc | apply Kd.R_drewN | apply Kd.R_drew)); exact HO_11.out)) k_ hk_))) (below_size (by repeat (first | (with_reducible first | exact HB.out | apply below_alloc | apply pw_below_drewN | apply below_drew1) | exact HB.out)))); have n2_ := Aside0.mk (below_step (by repeat (first | (with_reducible first | exact HB.out | apply below_alloc | apply pw_below_drewN | apply below_drew1) | exact HB.out)) hb); clear HO_11; clear HB; have HO_11 := n0_; have HO304 := n1_; have HB := n2_; clear n0_ n1_ n2_; (try clear hb); (try clear hb2); (try clear hk); (try clear hi); (try clear ho0)))
                    (try simp only [Act.put, List.setIfInBounds_toArray, List.set_cons_zero, List.set_cons_succ])
                    go_cut [122] (fun v122 wc => ∃ (kq : Nat) (x122_43 : Bool), v122 = .bool x122_43 ∧ Aside0 (merkhetlaw15_RelaxSure.j3 kq l0 x8_2 t302 x122_43 = some r) ∧ Aside0 (kq ≤ k3) ∧ Aside0 (Kd.V (Kd.int .i64) 2 wc w.heap.size (fun _ => True) v303 t302) ∧ Aside0 (Below w.heap.size w wc))
                    case first =>
                      have H := HC44.out
                      clear HC44
                      by_cases c47 : t305 = true
                      · subst c47
                        have H1 : (if (t302.length : Int) = (l0.length : Int) then ((merkhetref14_All.f k3 x11_3 t302).bind fun t306 => (merkhetlaw15_RelaxSure.j3 k3 l0 x8_2 t302 (!t306))) else (merkhetlaw15_RelaxSure.j3 k3 l0 x8_2 t302 true)) = some r := by rw [if_pos rfl] at H; exact H
                        clear H
                        have H := H1
                        clear H1
                        by_cases c48 : (t302.length : Int) = (l0.length : Int)
                        · rw [if_pos c48] at H
                          have c48b0 : ((t302.length : Int) == (l0.length : Int)) = true := beq_iff_eq.mpr c48
                          have c48b1 : ((t302.length : Int) != (l0.length : Int)) = false := bne_eq_false_iff_eq.mpr c48
                          have c48b2 : (t302.length == l0.length) = true := by first | simpa using c48 | (simp at c48 ⊢; omega)
                          clear c48
                          (first | rw [c48b0] | (simp only [i64_w, i32_w]; rw [c48b0]) | skip)
                          replace H := Option.bind_eq_some_iff.mp H
                          obtain ⟨t306, A490, H⟩ := H
                          replace H : (merkhetlaw15_RelaxSure.j3 k3 l0 x8_2 t302 (!t306)) = some r := H
                          have A49 := Aside0.mk A490
                          clear A490
                          have H' := Aside0.mk H
                          clear H
                          obtain ⟨Ao50, co50, eo50⟩ := Kd.V_slice HO304.out
                          subst eo50
                          go_wp2_with (first | (go_at_call 29; (with_reducible refine (merkhetref14_All.calls k3 _ _ x11_3 _ _ t302 t306 _ ?side1 ?side2 ?side3 ?side4 A49.out).mono ?_); (case side1 => repeat (first | exact (Kd.R_reads' HO_11.out).2.2 | (with_reducible refine Kd.C_alloc ?_ _) | (with_reducible refine Kd.C_drewN ?_ _) | (with_reducible refine Kd.C_drew ?_))); (case side2 => exact (Kd.R_reads' HO_11.out).2.1); (case side3 => repeat (first | exact (Kd.V_reads' HO304.out).2.2 | (with_reducible refine Kd.C_alloc ?_ _) | (with_reducible refine Kd.C_drewN ?_ _) | (with_reducible refine Kd.C_drew ?_))); (case side4 => exact (Kd.V_reads' HO304.out).2.1); rintro e w51 ⟨rfl, hb⟩; have n0_ := Aside0.mk (Kd.R_below (by (with_reducible repeat (first | apply Kd.R_alloc | apply Kd.R_drewN | apply Kd.R_drew)); exact HO_11.out) hb); have n1_ := Aside0.mk (Kd.V_below (by (with_reducible repeat (first | apply Kd.V_alloc | apply Kd.V_drewN | apply Kd.V_drew)); exact HO304.out) hb); have n2_ := Aside0.mk (below_step (by repeat (first | (with_reducible first | exact HB.out | apply below_alloc | apply pw_below_drewN | apply below_drew1) | exact HB.out)) hb); clear HO_11; clear HO304; clear HB; have HO_11 := n0_; have HO304 := n1_; have HB := n2_; clear n0_ n1_ n2_; (try clear hb); (try clear hb2); (try clear hk); (try clear hi)))
                          go_meet
                          case rel => exact ⟨_, (!t306), (by first | rfl | (simp; done) | (simp [*]; done)), H', ⟨by have := HJ3.out; have := HK2.out; have := HK3.out; first | omega | exact Nat.le_refl _⟩, ⟨by (with_reducible repeat (first | apply Kd.V_alloc | apply Kd.V_drewN | apply Kd.V_drew)); exact Kd.V_mono HO304.out (fun _ hk => trivial)⟩, ⟨by repeat (first | (with_reducible first | exact HB.out | apply below_alloc | apply pw_below_drewN | apply below_drew1) | exact HB.out)⟩⟩
                        · rw [if_neg c48] at H
                          have c48b0 : ((t302.length : Int) == (l0.length : Int)) = false := beq_eq_false_iff_ne.mpr c48
                          have c48b1 : ((t302.length : Int) != (l0.length : Int)) = true := bne_iff_ne.mpr c48
                          have c48b2 : (t302.length == l0.length) = false := by first | simpa using c48 | (simp at c48 ⊢; omega)
                          (first | rw [c48b0] | (simp only [i64_w, i32_w]; rw [c48b0]) | skip)
                          have H' := Aside0.mk H
                          clear H
                          obtain ⟨Ao52, co52, eo52⟩ := Kd.V_slice HO304.out
                          subst eo52
                          go_wp2
                          go_meet
                          case rel => exact ⟨_, (true), (by first | rfl | (simp; done) | (simp [*]; done)), H', ⟨by have := HJ3.out; have := HK2.out; have := HK3.out; first | omega | exact Nat.le_refl _⟩, ⟨by (with_reducible repeat (first | apply Kd.V_alloc | apply Kd.V_drewN | apply Kd.V_drew)); exact Kd.V_mono HO304.out (fun _ hk => trivial)⟩, ⟨by repeat (first | (with_reducible first | exact HB.out | apply below_alloc | apply pw_below_drewN | apply below_drew1) | exact HB.out)⟩⟩
                      · replace c47 := Bool.eq_false_iff.mpr c47
                        subst c47
                        have H1 : (merkhetlaw15_RelaxSure.j3 k3 l0 x8_2 t302 true) = some r := by rw [if_neg (show ¬ (false = true) by decide)] at H; exact H
                        clear H
                        have H := H1
                        clear H1
                        have H' := Aside0.mk H
                        clear H
                        go_wp2
                        go_meet
                        case rel => exact ⟨_, (true), (by first | rfl | (simp; done) | (simp [*]; done)), H', ⟨by have := HJ3.out; have := HK2.out; have := HK3.out; first | omega | exact Nat.le_refl _⟩, ⟨by (with_reducible repeat (first | apply Kd.V_alloc | apply Kd.V_drewN | apply Kd.V_drew)); exact Kd.V_mono HO304.out (fun _ hk => trivial)⟩, ⟨by repeat (first | (with_reducible first | exact HB.out | apply below_alloc | apply pw_below_drewN | apply below_drew1) | exact HB.out)⟩⟩
                    case rest =>
                      clear HC44
                      try clear c1
                      try clear c2
                      try clear p2
                      try clear q2
                      try clear hx2
                      try clear c3
                      try clear c4
                      try clear c5
                      try clear c5b0
                      try clear c5b1
                      try clear c5b2
                      try clear c6
                      try clear c6b0
                      try clear c6b1
                      try clear p6
                      try clear c7
                      try clear c7b0
                      try clear c7b1
                      try clear c8
                      try clear c8b0
                      try clear c8b1
                      try clear c8b2
                      try clear c9
                      try clear c12
                      try clear c12b0
                      try clear c13
                      try clear c13b0
                      try clear c14
                      try clear c14b0
                      try clear c15
                      try clear c15b0
                      try clear c18
                      try clear c18b0
                      try clear c20
                      try clear c22
                      try clear c22b0
                      try clear c23
                      try clear c23b0
                      try clear c24
                      try clear c24b0
                      try clear c25
                      try clear c25b0
                      try clear c25b1
                      try clear c25b2
                      try clear c27
                      try clear c27b0
                      try clear c28
                      try clear c28b0
                      try clear p29
                      try clear q29
                      try clear hx29
                      try clear c30
                      try clear c30b0
                      try clear c31
                      try clear c31b0
                      try clear c32
                      try clear c32b0
                      try clear c32b1
                      try clear c32b2
                      try clear c34
                      try clear c34b0
                      try clear c35
                      try clear c35b0
                      try clear c36
                      try clear c47
                      try clear c48
                      try clear c48b0
                      try clear c48b1
                      try clear c48b2
                      try clear hcz38_0
                      try clear hcz38_1
                      try clear hfz38_0
                      try clear hfz38_1
                      try clear hx291_0
                      try clear hx294_0
                      try clear hx294_1
                      try clear hx296_0
                      try clear hx297_0
                      try clear hx298_0
                      try clear p2
                      try clear p291
                      try clear p294
                      try clear p296
                      try clear p297
                      try clear p298
                      try clear p6
                      try clear q2
                      try clear q291
                      try clear q294
                      try clear q296
                      try clear q297
                      try clear q298
                      obtain ⟨kq, x122_43, rfl, HA, HJ43, HO_16, HB⟩ := hcut
                      cases kq with
                      | zero => exact absurd HA.out (by simp [merkhetlaw15_RelaxSure.j3])
                      | succ kj43 =>
                        have H := HA.out
                        clear HA
                        simp only [merkhetlaw15_RelaxSure.j3] at H
                        by_cases c53 : x122_43 = true
                        · subst c53
                          have H1 : (some false) = some r := by rw [if_pos rfl] at H; exact H
                          clear H
                          have H := H1
                          clear H1
                          obtain rfl := Option.some.inj H
                          go_wp2
                          go_ret
                          exact ⟨by first | rfl | (simp [errW_none, errW_some] <;> rfl) | (simp [*, errW_none, errW_some] <;> rfl), by repeat (first | (with_reducible first | exact HB.out | apply below_alloc | apply pw_below_drewN | apply below_drew1) | exact HB.out)⟩
                        · replace c53 := Bool.eq_false_iff.mpr c53
                          subst c53
                          have H1 : (merkhetlaw15_RelaxSure.l2 kj43 x8_2 t302 l0 (l0.length : Int) 0) = some r := by rw [if_neg (show ¬ (false = true) by decide)] at H; exact H
                          clear H
                          have H := H1
                          clear H1
                          have H' := Aside0.mk H
                          clear H
                          go_wp2
                          go_loopg [125] kj43 (fun kq v125 w' => ∃ (x125_5 : Int), v125 = .int .i64 x125_5 ∧ Aside0 (merkhetlaw15_RelaxSure.l2 kq x8_2 t302 l0 (l0.length : Int) x125_5 = some r) ∧ Aside0 (kq ≤ kj43) ∧ Aside0 (Kd.V (Kd.int .i64) 2 w' w.heap.size (fun _ => True) v303 t302) ∧ Aside0 (Below w.heap.size w w'))
                          case atStart => exact ⟨(0), (by first | rfl | (simp; done) | (simp [*]; done)), H', ⟨Nat.le_refl _⟩, ⟨by (with_reducible repeat (first | apply Kd.V_alloc | apply Kd.V_drewN | apply Kd.V_drew)); exact HO_16.out⟩, ⟨by repeat (first | (with_reducible first | exact HB.out | apply below_alloc | apply pw_below_drewN | apply below_drew1) | exact HB.out)⟩⟩
                          case round =>
                            clear H'
                            try clear c1
                            try clear c2
                            try clear p2
                            try clear q2
                            try clear hx2
                            try clear c3
                            try clear c4
                            try clear c5
                            try clear c5b0
                            try clear c5b1
                            try clear c5b2
                            try clear c6
                            try clear c6b0
                            try clear c6b1
                            try clear p6
                            try clear c7
                            try clear c7b0
                            try clear c7b1
                            try clear c8
                            try clear c8b0
                            try clear c8b1
                            try clear c8b2
                            try clear c9
                            try clear c12
                            try clear c12b0
                            try clear c13
                            try clear c13b0
                            try clear c14
                            try clear c14b0
                            try clear c15
                            try clear c15b0
                            try clear c18
                            try clear c18b0
                            try clear c20
                            try clear c22
                            try clear c22b0
                            try clear c23
                            try clear c23b0
                            try clear c24
                            try clear c24b0
                            try clear c25
                            try clear c25b0
                            try clear c25b1
                            try clear c25b2
                            try clear c27
                            try clear c27b0
                            try clear c28
                            try clear c28b0
                            try clear p29
                            try clear q29
                            try clear hx29
                            try clear c30
                            try clear c30b0
                            try clear c31
                            try clear c31b0
                            try clear c32
                            try clear c32b0
                            try clear c32b1
                            try clear c32b2
                            try clear c34
                            try clear c34b0
                            try clear c35
                            try clear c35b0
                            try clear c36
                            try clear c47
                            try clear c48
                            try clear c48b0
                            try clear c48b1
                            try clear c48b2
                            try clear c53
                            try clear hcz38_0
                            try clear hcz38_1
                            try clear hfz38_0
                            try clear hfz38_1
                            try clear hx291_0
                            try clear hx294_0
                            try clear hx294_1
                            try clear hx296_0
                            try clear hx297_0
                            try clear hx298_0
                            try clear p2
                            try clear p29
                            try clear p291
                            try clear p294
                            try clear p296
                            try clear p297
                            try clear p298
                            try clear p6
                            try clear q2
                            try clear q29
                            try clear q291
                            try clear q294
                            try clear q296
                            try clear q297
                            try clear q298
                            obtain ⟨x125_5, rfl, HA, HK5, HO_16, HB⟩ := hrel
                            cases gk with
                            | zero => exact absurd HA.out (by simp [merkhetlaw15_RelaxSure.l2])
                            | succ k5 =>
                              have H := HA.out
                              clear HA
                              simp only [merkhetlaw15_RelaxSure.l2] at H
                              by_cases c54 : x125_5 < (l0.length : Int)
                              · rw [if_pos c54] at H
                                have c54b0 : decide (x125_5 < (l0.length : Int)) = true := decide_eq_true c54
                                clear c54
                                by_cases c55 : 0 ≤ x125_5
                                · rw [if_pos c55] at H
                                  have c55b0 : decide (0 ≤ x125_5) = true := decide_eq_true c55
                                  clear c55
                                  by_cases c56 : x125_5 < (l0.length : Int)
                                  · rw [if_pos c56] at H
                                    have c56b0 : decide (x125_5 < (l0.length : Int)) = true := decide_eq_true c56
                                    clear c56
                                    by_cases c57 : x125_5 < (t302.length : Int)
                                    · rw [if_pos c57] at H
                                      have c57b0 : decide (x125_5 < (t302.length : Int)) = true := decide_eq_true c57
                                      clear c57
                                      by_cases c58 : (rd t302 x125_5) < (wrap64 ((rd l0 x125_5) - x8_2))
                                      · rw [if_pos c58] at H
                                        have c58b0 : decide ((rd t302 x125_5) < (wrap64 ((rd l0 x125_5) - x8_2))) = true := decide_eq_true c58
                                        clear c58
                                        obtain rfl := Option.some.inj H
                                        have p307 : 0 ≤ (x125_5 : Int) := of_decide_eq_true (by first | (with_reducible assumption) | assumption)
                                        have q307 : x125_5 < (l0.length : Int) := of_decide_eq_true (by first | (with_reducible assumption) | assumption)
                                        obtain ⟨ad307, e307, hx307_0⟩ := Kd.at_int HR0.out x125_5 p307 q307
                                        cases e307
                                        replace hx307_0 := (HB.out.cell (World.block_lt_of_cell? w _ hx307_0)).trans hx307_0
                                        replace p307 := eq_true p307
                                        replace q307 := eq_true q307
                                        obtain ⟨Ao59, co59, eo59⟩ := Kd.V_slice HO_16.out
                                        subst eo59
                                        have p308 : 0 ≤ (x125_5 : Int) := of_decide_eq_true (by first | (with_reducible assumption) | assumption)
                                        have q308 : x125_5 < (t302.length : Int) := of_decide_eq_true (by first | (with_reducible assumption) | assumption)
                                        obtain ⟨ad308, e308, hx308_0⟩ := Kd.at_int (Kd.V_reads' HO_16.out).2.2 x125_5 p308 q308
                                        cases e308
                                        replace p308 := eq_true p308
                                        replace q308 := eq_true q308
                                        go_wp2
                                        go_ret
                                        exact ⟨by first | rfl | (simp [errW_none, errW_some] <;> rfl) | (simp [*, errW_none, errW_some] <;> rfl), by repeat (first | (with_reducible first | exact HB.out | apply below_alloc | apply pw_below_drewN | apply below_drew1) | exact HB.out)⟩
                                      · rw [if_neg c58] at H
                                        have c58b0 : decide ((rd t302 x125_5) < (wrap64 ((rd l0 x125_5) - x8_2))) = false := decide_eq_false c58
                                        clear c58
                                        by_cases c60 : (rd t302 x125_5) > 0
                                        · rw [if_pos c60] at H
                                          have c60b0 : decide (0 < (rd t302 x125_5)) = true := decide_eq_true c60
                                          clear c60
                                          obtain rfl := Option.some.inj H
                                          have p307 : 0 ≤ (x125_5 : Int) := of_decide_eq_true (by first | (with_reducible assumption) | assumption)
                                          have q307 : x125_5 < (l0.length : Int) := of_decide_eq_true (by first | (with_reducible assumption) | assumption)
                                          obtain ⟨ad307, e307, hx307_0⟩ := Kd.at_int HR0.out x125_5 p307 q307
                                          cases e307
                                          replace hx307_0 := (HB.out.cell (World.block_lt_of_cell? w _ hx307_0)).trans hx307_0
                                          replace p307 := eq_true p307
                                          replace q307 := eq_true q307
                                          obtain ⟨Ao61, co61, eo61⟩ := Kd.V_slice HO_16.out
                                          subst eo61
                                          have p308 : 0 ≤ (x125_5 : Int) := of_decide_eq_true (by first | (with_reducible assumption) | assumption)
                                          have q308 : x125_5 < (t302.length : Int) := of_decide_eq_true (by first | (with_reducible assumption) | assumption)
                                          obtain ⟨ad308, e308, hx308_0⟩ := Kd.at_int (Kd.V_reads' HO_16.out).2.2 x125_5 p308 q308
                                          cases e308
                                          replace p308 := eq_true p308
                                          replace q308 := eq_true q308
                                          have p309 : 0 ≤ (x125_5 : Int) := of_decide_eq_true (by first | (with_reducible assumption) | assumption)
                                          have q309 : x125_5 < (t302.length : Int) := of_decide_eq_true (by first | (with_reducible assumption) | assumption)
                                          obtain ⟨ad309, e309, hx309_0⟩ := Kd.at_int (Kd.V_reads' HO_16.out).2.2 x125_5 p309 q309
                                          obtain rfl : ad308 = ad309 := (by injection e309)
                                          replace p309 := eq_true p309
                                          replace q309 := eq_true q309
                                          go_wp2
                                          go_ret
                                          exact ⟨by first | rfl | (simp [errW_none, errW_some] <;> rfl) | (simp [*, errW_none, errW_some] <;> rfl), by repeat (first | (with_reducible first | exact HB.out | apply below_alloc | apply pw_below_drewN | apply below_drew1) | exact HB.out)⟩
                                        · rw [if_neg c60] at H
                                          have c60b0 : decide (0 < (rd t302 x125_5)) = false := decide_eq_false c60
                                          clear c60
                                          have H' := Aside0.mk H
                                          clear H
                                          have p307 : 0 ≤ (x125_5 : Int) := of_decide_eq_true (by first | (with_reducible assumption) | assumption)
                                          have q307 : x125_5 < (l0.length : Int) := of_decide_eq_true (by first | (with_reducible assumption) | assumption)
                                          obtain ⟨ad307, e307, hx307_0⟩ := Kd.at_int HR0.out x125_5 p307 q307
                                          cases e307
                                          replace hx307_0 := (HB.out.cell (World.block_lt_of_cell? w _ hx307_0)).trans hx307_0
                                          replace p307 := eq_true p307
                                          replace q307 := eq_true q307
                                          obtain ⟨Ao62, co62, eo62⟩ := Kd.V_slice HO_16.out
                                          subst eo62
                                          have p308 : 0 ≤ (x125_5 : Int) := of_decide_eq_true (by first | (with_reducible assumption) | assumption)
                                          have q308 : x125_5 < (t302.length : Int) := of_decide_eq_true (by first | (with_reducible assumption) | assumption)
                                          obtain ⟨ad308, e308, hx308_0⟩ := Kd.at_int (Kd.V_reads' HO_16.out).2.2 x125_5 p308 q308
                                          cases e308
                                          replace p308 := eq_true p308
                                          replace q308 := eq_true q308
                                          have p309 : 0 ≤ (x125_5 : Int) := of_decide_eq_true (by first | (with_reducible assumption) | assumption)
                                          have q309 : x125_5 < (t302.length : Int) := of_decide_eq_true (by first | (with_reducible assumption) | assumption)
                                          obtain ⟨ad309, e309, hx309_0⟩ := Kd.at_int (Kd.V_reads' HO_16.out).2.2 x125_5 p309 q309
                                          obtain rfl : ad308 = ad309 := (by injection e309)
                                          replace p309 := eq_true p309
                                          replace q309 := eq_true q309
                                          go_wp2
                                          go_roundg k5
                                          case measure => have := HJ3.out; have := HK2.out; have := HK3.out; have := HJ43.out; have := HK5.out; omega
                                          case rel => exact ⟨(wrap64 (x125_5 + 1)), (by first | rfl | (simp; done) | (simp [*]; done)), H', ⟨by have := HJ3.out; have := HK2.out; have := HK3.out; have := HJ43.out; have := HK5.out; omega⟩, ⟨by (with_reducible repeat (first | apply Kd.V_alloc | apply Kd.V_drewN | apply Kd.V_drew)); exact HO_16.out⟩, ⟨by repeat (first | (with_reducible first | exact HB.out | apply below_alloc | apply pw_below_drewN | apply below_drew1) | exact HB.out)⟩⟩
                                    · rw [if_neg c57] at H
                                      exact absurd H (by simp)
                                  · rw [if_neg c56] at H
                                    exact absurd H (by simp)
                                · rw [if_neg c55] at H
                                  exact absurd H (by simp)
                              · rw [if_neg c54] at H
                                have c54b0 : decide (x125_5 < (l0.length : Int)) = false := decide_eq_false c54
                                clear c54
                                replace H := Option.bind_eq_some_iff.mp H
                                obtain ⟨t310, A630, H⟩ := H
                                replace H : (some t310) = some r := H
                                have A63 := Aside0.mk A630
                                clear A630
                                obtain rfl := Option.some.inj H
                                go_wp2_with (first | ((with_reducible refine gate_callee (f := 20) rfl ?_); refine goesL_ (some 146) rfl rfl Try.func20 (by kernel_rfl) rfl #[] rfl (by (try simp only [List.map_toArray, List.map_cons, List.map_nil]); first | done | rfl | (simp only [List.length_drop, List.length_take]; rfl)) ?_; (with_reducible refine (merkhetlaw15_fixed.calls k5  t310 _ A63.out).mono ?_); rintro e w64 ⟨rfl, hb⟩; refine ⟨_, rfl, ?_⟩; have n0_ := Aside0.mk (Kd.V_below (by (with_reducible repeat (first | apply Kd.V_alloc | apply Kd.V_drewN | apply Kd.V_drew)); exact HO_16.out) hb); have n1_ := Aside0.mk (below_step (by repeat (first | (with_reducible first | exact HB.out | apply below_alloc | apply pw_below_drewN | apply below_drew1) | exact HB.out)) hb); clear HO_16; clear HB; have HO_16 := n0_; have HB := n1_; clear n0_ n1_; (try clear hb); (try clear hb2); (try clear hk); (try clear hi)))
                                go_ret
                                exact ⟨by first | rfl | (simp [errW_none, errW_some] <;> rfl) | (simp [*, errW_none, errW_some] <;> rfl), by repeat (first | (with_reducible first | exact HB.out | apply below_alloc | apply pw_below_drewN | apply below_drew1) | exact HB.out)⟩

/-- THE ONE PURE STATEMENT of merkhetlaw15_RelaxSure. -/
def merkhetlaw15_RelaxSure.Pure : Prop := ∀ (l0 : List Int) (l1 : List (S43)) (l2 : List Int), l0.length ≤ maxLen → l0.length * 8 ≤ 140737488351232 → (∀ x0_ ∈ l0, (Lit.int .i64 x0_).wf = true) → l1.length ≤ maxLen → (∀ x0_ ∈ l1, ((Lit.int .u8 x0_.f0).wf = true ∧ (Lit.int .u8 x0_.f1).wf = true)) → l2.length ≤ maxLen → l2.length * 4 ≤ 140737488351232 → (∀ x0_ ∈ l2, (Lit.int .u32 x0_).wf = true) → ∃ k, merkhetlaw15_RelaxSure.f k l0 l1 l2 = some true

end Go.Proofs.Ytacjlaiddnfpdaa.L
