-- WRITTEN FOR THIS CLAIM by wip/tools/mp.py, a program of this project that drives the kit's print; the functions that the print does not take are this project's own texts.
import Derived.Test.YtacjlaiddnfpdaaLx0
import Derived.Test.YtacjlaiddnfpdaaLx2
import Derived.Test.YtacjlaiddnfpdaaLx3
import Derived.Test.YtacjlaiddnfpdaaLx6
namespace Go.Proofs.Ytacjlaiddnfpdaa.L
open Go.RowKit Go.Proofs.YtacjlaiddnfpdaaW.PrintWords Go.Proofs.YtacjlaiddnfpdaaW.PrintLast Go.Proofs.YtacjlaiddnfpdaaW.PrintMore
attribute [local go_sem] max2_int min2_int max_two min_two max_three min_three max_four min_four   -- for this text's walks alone
set_option linter.unusedVariables false
set_option linter.unusedSimpArgs false

/-! ### merkhetlaw15_RelaxGreatest: function 6 -/
mutual
def merkhetlaw15_RelaxGreatest.j0 : Nat → Int → List (S48) → List Int → Bool → Option (Bool)
  | 0, _, _, _, _ => none
  | k + 1, x0, x1, x2, x28 => if x28 = true then ((merkhetlaw15_fixed.f k).bind fun t277 => (some t277)) else (merkhetlaw15_RelaxGreatest.l0 k x0 x1 x2 0 x2 (x2.length : Int) 0)
def merkhetlaw15_RelaxGreatest.l0 : Nat → Int → List (S48) → List Int → Int → List Int → Int → Int → Option (Bool)
  | 0, _, _, _, _, _, _, _ => none
  | k + 1, x0, x1, x2, x7, x30, x31, x32 => if x32 < x31 then (if 0 ≤ x32 then (if x32 < (x30.length : Int) then (if (rd x30 x32) > 144115188075855872 then ((merkhetlaw15_fixed.f k).bind fun t279 => (some t279)) else (if (rd x30 x32) < (-144115188075855872) then ((merkhetlaw15_fixed.f k).bind fun t280 => (some t280)) else (merkhetlaw15_RelaxGreatest.l0 k x0 x1 x2 (mx x7 (rd x30 x32)) x30 x31 (wrap64 (x32 + 1))))) else (none)) else (none)) else ((relax_Solve.f k x0 x1).bind fun bt281 => ((merkhetref14_All.f k x1 x2).bind fun t285 => (if t285 = true then (if bt281.2 = true then (merkhetlaw15_RelaxGreatest.j2 k x2 x7 bt281.1 ((bt281.1.length : Int) != x0)) else (merkhetlaw15_RelaxGreatest.j2 k x2 x7 bt281.1 true)) else ((merkhetlaw15_fixed.f k).bind fun t286 => (some t286)))))
def merkhetlaw15_RelaxGreatest.j2 : Nat → List Int → Int → List Int → Bool → Option (Bool)
  | 0, _, _, _, _ => none
  | k + 1, x2, x7, x10, x65 => if x65 = true then (some false) else (merkhetlaw15_RelaxGreatest.l1 k x7 x10 x2 (x2.length : Int) 0)
def merkhetlaw15_RelaxGreatest.l1 : Nat → Int → List Int → List Int → Int → Int → Option (Bool)
  | 0, _, _, _, _, _ => none
  | k + 1, x7, x10, x66, x67, x68 => if x68 < x67 then (if 0 ≤ x68 then (if x68 < (x66.length : Int) then (if x68 < (x10.length : Int) then (if (wrap64 ((rd x66 x68) - x7)) > (rd x10 x68) then (some false) else (merkhetlaw15_RelaxGreatest.l1 k x7 x10 x66 x67 (wrap64 (x68 + 1)))) else (none)) else (none)) else (none)) else ((merkhetlaw15_fixed.f k).bind fun t289 => (some t289))
end
def merkhetlaw15_RelaxGreatest.f (k : Nat) (a0 : Int) (l1 : List (S48)) (l2 : List Int) : Option (Bool) := if (l1.length : Int) > 100 then (merkhetlaw15_RelaxGreatest.j0 k a0 l1 l2 true) else (if (l2.length : Int) = a0 then ((merkhetref15_May.f k a0 l1).bind fun t276 => (merkhetlaw15_RelaxGreatest.j0 k a0 l1 l2 (!t276))) else (merkhetlaw15_RelaxGreatest.j0 k a0 l1 l2 true))
theorem merkhetlaw15_RelaxGreatest.mono_l : ∀ k, (∀ y0 y1 y2 y3, LeO (merkhetlaw15_RelaxGreatest.j0 k y0 y1 y2 y3) (merkhetlaw15_RelaxGreatest.j0 (k + 1) y0 y1 y2 y3)) ∧ (∀ y0 y1 y2 y3 y4 y5 y6, LeO (merkhetlaw15_RelaxGreatest.l0 k y0 y1 y2 y3 y4 y5 y6) (merkhetlaw15_RelaxGreatest.l0 (k + 1) y0 y1 y2 y3 y4 y5 y6)) ∧ (∀ y0 y1 y2 y3, LeO (merkhetlaw15_RelaxGreatest.j2 k y0 y1 y2 y3) (merkhetlaw15_RelaxGreatest.j2 (k + 1) y0 y1 y2 y3)) ∧ (∀ y0 y1 y2 y3 y4, LeO (merkhetlaw15_RelaxGreatest.l1 k y0 y1 y2 y3 y4) (merkhetlaw15_RelaxGreatest.l1 (k + 1) y0 y1 y2 y3 y4))
  | 0 => ⟨fun _ _ _ _ r h => by simp [merkhetlaw15_RelaxGreatest.j0] at h, fun _ _ _ _ _ _ _ r h => by simp [merkhetlaw15_RelaxGreatest.l0] at h, fun _ _ _ _ r h => by simp [merkhetlaw15_RelaxGreatest.j2] at h, fun _ _ _ _ _ r h => by simp [merkhetlaw15_RelaxGreatest.l1] at h⟩
  | k + 1 => by
    obtain ⟨ih0, ih1, ih2, ih3⟩ := merkhetlaw15_RelaxGreatest.mono_l k
    refine ⟨?_, ?_, ?_, ?_⟩
    · intro y0 y1 y2 y3
      unfold merkhetlaw15_RelaxGreatest.j0
      repeat' first
      | (with_reducible exact ih0 _ _ _ _)
      | (with_reducible exact ih1 _ _ _ _ _ _ _)
      | (with_reducible exact ih2 _ _ _ _)
      | (with_reducible exact ih3 _ _ _ _ _)
      | (with_reducible exact merkhetlaw15_fixed.mono _)
      | (with_reducible exact merkhetref14_All.mono _ _ _)
      | (with_reducible exact merkhetref15_May.mono _ _ _)
      | (with_reducible exact relax_Solve.mono _ _ _)
      | (with_reducible exact LeO.refl _)
      | (with_reducible exact LeO.none _)
      | (with_reducible refine LeO.ite ?_ ?_)
      | (with_reducible refine LeO.bind ?_ (fun _ => ?_))
      | exact ih0 _ _ _ _
      | exact ih1 _ _ _ _ _ _ _
      | exact ih2 _ _ _ _
      | exact ih3 _ _ _ _ _
      | exact merkhetlaw15_fixed.mono _
      | exact merkhetref14_All.mono _ _ _
      | exact merkhetref15_May.mono _ _ _
      | exact relax_Solve.mono _ _ _
      | exact LeO.none _
      | refine LeO.ite ?_ ?_
      | refine LeO.bind ?_ (fun _ => ?_)
    · intro y0 y1 y2 y3 y4 y5 y6
      unfold merkhetlaw15_RelaxGreatest.l0
      repeat' first
      | (with_reducible exact ih0 _ _ _ _)
      | (with_reducible exact ih1 _ _ _ _ _ _ _)
      | (with_reducible exact ih2 _ _ _ _)
      | (with_reducible exact ih3 _ _ _ _ _)
      | (with_reducible exact merkhetlaw15_fixed.mono _)
      | (with_reducible exact merkhetref14_All.mono _ _ _)
      | (with_reducible exact merkhetref15_May.mono _ _ _)
      | (with_reducible exact relax_Solve.mono _ _ _)
      | (with_reducible exact LeO.refl _)
      | (with_reducible exact LeO.none _)
      | (with_reducible refine LeO.ite ?_ ?_)
      | (with_reducible refine LeO.bind ?_ (fun _ => ?_))
      | exact ih0 _ _ _ _
      | exact ih1 _ _ _ _ _ _ _
      | exact ih2 _ _ _ _
      | exact ih3 _ _ _ _ _
      | exact merkhetlaw15_fixed.mono _
      | exact merkhetref14_All.mono _ _ _
      | exact merkhetref15_May.mono _ _ _
      | exact relax_Solve.mono _ _ _
      | exact LeO.none _
      | refine LeO.ite ?_ ?_
      | refine LeO.bind ?_ (fun _ => ?_)
    · intro y0 y1 y2 y3
      unfold merkhetlaw15_RelaxGreatest.j2
      repeat' first
      | (with_reducible exact ih0 _ _ _ _)
      | (with_reducible exact ih1 _ _ _ _ _ _ _)
      | (with_reducible exact ih2 _ _ _ _)
      | (with_reducible exact ih3 _ _ _ _ _)
      | (with_reducible exact merkhetlaw15_fixed.mono _)
      | (with_reducible exact merkhetref14_All.mono _ _ _)
      | (with_reducible exact merkhetref15_May.mono _ _ _)
      | (with_reducible exact relax_Solve.mono _ _ _)
      | (with_reducible exact LeO.refl _)
      | (with_reducible exact LeO.none _)
      | (with_reducible refine LeO.ite ?_ ?_)
      | (with_reducible refine LeO.bind ?_ (fun _ => ?_))
      | exact ih0 _ _ _ _
      | exact ih1 _ _ _ _ _ _ _
      | exact ih2 _ _ _ _
      | exact ih3 _ _ _ _ _
      | exact merkhetlaw15_fixed.mono _
      | exact merkhetref14_All.mono _ _ _
      | exact merkhetref15_May.mono _ _ _
      | exact relax_Solve.mono _ _ _
      | exact LeO.none _
      | refine LeO.ite ?_ ?_
      | refine LeO.bind ?_ (fun _ => ?_)
    · intro y0 y1 y2 y3 y4
      unfold merkhetlaw15_RelaxGreatest.l1
      repeat' first
      | (with_reducible exact ih0 _ _ _ _)
      | (with_reducible exact ih1 _ _ _ _ _ _ _)
      | (with_reducible exact ih2 _ _ _ _)
      | (with_reducible exact ih3 _ _ _ _ _)
      | (with_reducible exact merkhetlaw15_fixed.mono _)
      | (with_reducible exact merkhetref14_All.mono _ _ _)
      | (with_reducible exact merkhetref15_May.mono _ _ _)
      | (with_reducible exact relax_Solve.mono _ _ _)
      | (with_reducible exact LeO.refl _)
      | (with_reducible exact LeO.none _)
      | (with_reducible refine LeO.ite ?_ ?_)
      | (with_reducible refine LeO.bind ?_ (fun _ => ?_))
      | exact ih0 _ _ _ _
      | exact ih1 _ _ _ _ _ _ _
      | exact ih2 _ _ _ _
      | exact ih3 _ _ _ _ _
      | exact merkhetlaw15_fixed.mono _
      | exact merkhetref14_All.mono _ _ _
      | exact merkhetref15_May.mono _ _ _
      | exact relax_Solve.mono _ _ _
      | exact LeO.none _
      | refine LeO.ite ?_ ?_
      | refine LeO.bind ?_ (fun _ => ?_)
theorem merkhetlaw15_RelaxGreatest.mono : ∀ a0 a1 a2 k, LeO (merkhetlaw15_RelaxGreatest.f k a0 a1 a2) (merkhetlaw15_RelaxGreatest.f (k + 1) a0 a1 a2) := by
  intro a0 a1 a2 k
  obtain ⟨ih0, ih1, ih2, ih3⟩ := merkhetlaw15_RelaxGreatest.mono_l k
  unfold merkhetlaw15_RelaxGreatest.f
  repeat' first
      | (with_reducible exact ih0 _ _ _ _)
      | (with_reducible exact ih1 _ _ _ _ _ _ _)
      | (with_reducible exact ih2 _ _ _ _)
      | (with_reducible exact ih3 _ _ _ _ _)
      | (with_reducible exact merkhetlaw15_fixed.mono _)
      | (with_reducible exact merkhetref14_All.mono _ _ _)
      | (with_reducible exact merkhetref15_May.mono _ _ _)
      | (with_reducible exact relax_Solve.mono _ _ _)
      | (with_reducible exact LeO.refl _)
      | (with_reducible exact LeO.none _)
      | (with_reducible refine LeO.ite ?_ ?_)
      | (with_reducible refine LeO.bind ?_ (fun _ => ?_))
      | exact ih0 _ _ _ _
      | exact ih1 _ _ _ _ _ _ _
      | exact ih2 _ _ _ _
      | exact ih3 _ _ _ _ _
      | exact merkhetlaw15_fixed.mono _
      | exact merkhetref14_All.mono _ _ _
      | exact merkhetref15_May.mono _ _ _
      | exact relax_Solve.mono _ _ _
      | exact LeO.none _
      | refine LeO.ite ?_ ?_
      | refine LeO.bind ?_ (fun _ => ?_)
set_option maxHeartbeats 8000000 in
set_option maxRecDepth 100000 in
theorem merkhetlaw15_RelaxGreatest.calls (k : Nat) (a0 : Int) (A1 : Option Addr) (c1 : Nat) (l1 : List (S48)) (A2 : Option Addr) (c2 : Nat) (l2 : List Int) (r : Bool) (w : World) (hr1 : Kd.C k48 w A1 l1.length l1) (hc1 : l1.length ≤ c1) (hr2 : Kd.C (Kd.int .i64) w A2 l2.length l2) (hc2 : l2.length ≤ c2) (h : merkhetlaw15_RelaxGreatest.f k a0 l1 l2 = some r) :
    Calls Try.prog 6 #[.int .i64 a0, .slice A1 l1.length c1, .slice A2 l2.length c2] w fun e w' => e = .returned (.bool r) ∧ Below w.heap.size w w' := by
  have HR1 := Aside0.mk hr1
  have HC1 := Aside0.mk hc1
  clear hr1 hc1
  have HR2 := Aside0.mk hr2
  have HC2 := Aside0.mk hc2
  clear hr2 hc2
  have HB := Aside0.mk (Below.refl w.heap.size w)
  have H : (if (l1.length : Int) > 100 then (merkhetlaw15_RelaxGreatest.j0 k a0 l1 l2 true) else (if (l2.length : Int) = a0 then ((merkhetref15_May.f k a0 l1).bind fun t276 => (merkhetlaw15_RelaxGreatest.j0 k a0 l1 l2 (!t276))) else (merkhetlaw15_RelaxGreatest.j0 k a0 l1 l2 true))) = some r := h
  clear h
  have HC4 := Aside0.mk H
  clear H
  go_enter Try.func6, Try.ntmps6
  go_upto_region 1 with (fail)
  go_cut [28] (fun v28 wc => ∃ (kq : Nat) (x28_3 : Bool), v28 = .bool x28_3 ∧ Aside0 (merkhetlaw15_RelaxGreatest.j0 kq a0 l1 l2 x28_3 = some r) ∧ Aside0 (kq ≤ k) ∧ Aside0 (Below w.heap.size w wc))
  case first =>
    have H := HC4.out
    clear HC4
    by_cases c5 : (l1.length : Int) > 100
    · rw [if_pos c5] at H
      have c5b0 : decide (100 < (l1.length : Int)) = true := decide_eq_true c5
      have c5b1 : decide (100 < l1.length) = true := decide_eq_true (by omega)
      clear c5
      (first | rw [c5b0] | (simp only [i64_w, i32_w]; rw [c5b0]) | skip)
      have H' := Aside0.mk H
      clear H
      go_wp2
      go_meet
      case rel => exact ⟨_, (true), (by first | rfl | (simp; done) | (simp [*]; done)), H', ⟨by first | omega | exact Nat.le_refl _⟩, ⟨by repeat (first | (with_reducible first | exact HB.out | apply below_alloc | apply pw_below_drewN | apply below_drew1) | exact HB.out)⟩⟩
    · rw [if_neg c5] at H
      have c5b0 : decide (100 < (l1.length : Int)) = false := decide_eq_false c5
      have c5b1 : decide (100 < l1.length) = false := decide_eq_false (by omega)
      clear c5
      (first | rw [c5b0] | (simp only [i64_w, i32_w]; rw [c5b0]) | skip)
      by_cases c6 : (l2.length : Int) = a0
      · rw [if_pos c6] at H
        have c6b0 : ((l2.length : Int) == a0) = true := beq_iff_eq.mpr c6
        have c6b1 : ((l2.length : Int) != a0) = false := bne_eq_false_iff_eq.mpr c6
        clear c6
        replace H := Option.bind_eq_some_iff.mp H
        obtain ⟨t276, A70, H⟩ := H
        replace H : (merkhetlaw15_RelaxGreatest.j0 k a0 l1 l2 (!t276)) = some r := H
        have A7 := Aside0.mk A70
        clear A70
        have H' := Aside0.mk H
        clear H
        go_wp2_with (first | (go_at_call 24; (with_reducible refine (merkhetref15_May.calls k a0 _ _ l1 t276 _ ?side1 ?side2 A7.out).mono ?_); (case side1 => repeat (first | exact (Kd.C_below HR1.out HB.out) | (with_reducible refine Kd.C_alloc ?_ _) | (with_reducible refine Kd.C_drewN ?_ _) | (with_reducible refine Kd.C_drew ?_))); (case side2 => exact HC1.out); rintro e w8 ⟨rfl, hb⟩; have n0_ := Aside0.mk (below_step (by repeat (first | (with_reducible first | exact HB.out | apply below_alloc | apply pw_below_drewN | apply below_drew1) | exact HB.out)) hb); clear HB; have HB := n0_; clear n0_; (try clear hb); (try clear hb2); (try clear hk); (try clear hi)))
        go_meet
        case rel => exact ⟨_, (!t276), (by first | rfl | (simp; done) | (simp [*]; done)), H', ⟨by first | omega | exact Nat.le_refl _⟩, ⟨by repeat (first | (with_reducible first | exact HB.out | apply below_alloc | apply pw_below_drewN | apply below_drew1) | exact HB.out)⟩⟩
      · rw [if_neg c6] at H
        have c6b0 : ((l2.length : Int) == a0) = false := beq_eq_false_iff_ne.mpr c6
        have c6b1 : ((l2.length : Int) != a0) = true := bne_iff_ne.mpr c6
        have H' := Aside0.mk H
        clear H
        go_wp2
        go_meet
        case rel => exact ⟨_, (true), (by first | rfl | (simp; done) | (simp [*]; done)), H', ⟨by first | omega | exact Nat.le_refl _⟩, ⟨by repeat (first | (with_reducible first | exact HB.out | apply below_alloc | apply pw_below_drewN | apply below_drew1) | exact HB.out)⟩⟩
  case rest =>
    clear HC4
    try clear c1
    try clear c2
    try clear p2
    try clear c5
    try clear c5b0
    try clear c5b1
    try clear c6
    try clear c6b0
    try clear c6b1
    obtain ⟨kq, x28_3, rfl, HA, HJ3, HB⟩ := hcut
    cases kq with
    | zero => exact absurd HA.out (by simp [merkhetlaw15_RelaxGreatest.j0])
    | succ kj3 =>
      have H := HA.out
      clear HA
      simp only [merkhetlaw15_RelaxGreatest.j0] at H
      by_cases c9 : x28_3 = true
      · subst c9
        have H1 : ((merkhetlaw15_fixed.f kj3).bind fun t277 => (some t277)) = some r := by rw [if_pos rfl] at H; exact H
        clear H
        have H := H1
        clear H1
        replace H := Option.bind_eq_some_iff.mp H
        obtain ⟨t277, A100, H⟩ := H
        replace H : (some t277) = some r := H
        have A10 := Aside0.mk A100
        clear A100
        obtain rfl := Option.some.inj H
        go_wp2_with (first | ((with_reducible refine gate_callee (f := 20) rfl ?_); refine goesL_ (some 29) rfl rfl Try.func20 (by kernel_rfl) rfl #[] rfl (by (try simp only [List.map_toArray, List.map_cons, List.map_nil]); first | done | rfl | (simp only [List.length_drop, List.length_take]; rfl)) ?_; (with_reducible refine (merkhetlaw15_fixed.calls kj3  t277 _ A10.out).mono ?_); rintro e w11 ⟨rfl, hb⟩; refine ⟨_, rfl, ?_⟩; have n0_ := Aside0.mk (below_step (by repeat (first | (with_reducible first | exact HB.out | apply below_alloc | apply pw_below_drewN | apply below_drew1) | exact HB.out)) hb); clear HB; have HB := n0_; clear n0_; (try clear hb); (try clear hb2); (try clear hk); (try clear hi)))
        go_ret
        exact ⟨by first | rfl | (simp [errW_none, errW_some] <;> rfl) | (simp [*, errW_none, errW_some] <;> rfl), by repeat (first | (with_reducible first | exact HB.out | apply below_alloc | apply pw_below_drewN | apply below_drew1) | exact HB.out)⟩
      · replace c9 := Bool.eq_false_iff.mpr c9
        subst c9
        have H1 : (merkhetlaw15_RelaxGreatest.l0 kj3 a0 l1 l2 0 l2 (l2.length : Int) 0) = some r := by rw [if_neg (show ¬ (false = true) by decide)] at H; exact H
        clear H
        have H := H1
        clear H1
        have H' := Aside0.mk H
        clear H
        go_wp2
        go_loopg [7, 32] kj3 (fun kq v7 v32 w' => ∃ (x7_2 : Int) (x32_2 : Int), v7 = .int .i64 x7_2 ∧ v32 = .int .i64 x32_2 ∧ Aside0 (merkhetlaw15_RelaxGreatest.l0 kq a0 l1 l2 x7_2 l2 (l2.length : Int) x32_2 = some r) ∧ Aside0 (kq ≤ kj3) ∧ Aside0 (Below w.heap.size w w'))
        case atStart => exact ⟨(0), (0), (by first | rfl | (simp; done) | (simp [*]; done)), (by first | rfl | (simp; done) | (simp [*]; done)), H', ⟨Nat.le_refl _⟩, ⟨by repeat (first | (with_reducible first | exact HB.out | apply below_alloc | apply pw_below_drewN | apply below_drew1) | exact HB.out)⟩⟩
        case round =>
          clear H'
          try clear c1
          try clear c2
          try clear p2
          try clear c5
          try clear c5b0
          try clear c5b1
          try clear c6
          try clear c6b0
          try clear c6b1
          try clear c9
          try clear p2
          obtain ⟨x7_2, x32_2, rfl, rfl, HA, HK2, HB⟩ := hrel
          cases gk with
          | zero => exact absurd HA.out (by simp [merkhetlaw15_RelaxGreatest.l0])
          | succ k2 =>
            have H := HA.out
            clear HA
            simp only [merkhetlaw15_RelaxGreatest.l0] at H
            by_cases c12 : x32_2 < (l2.length : Int)
            · rw [if_pos c12] at H
              have c12b0 : decide (x32_2 < (l2.length : Int)) = true := decide_eq_true c12
              clear c12
              by_cases c13 : 0 ≤ x32_2
              · rw [if_pos c13] at H
                have c13b0 : decide (0 ≤ x32_2) = true := decide_eq_true c13
                clear c13
                by_cases c14 : x32_2 < (l2.length : Int)
                · rw [if_pos c14] at H
                  have c14b0 : decide (x32_2 < (l2.length : Int)) = true := decide_eq_true c14
                  clear c14
                  by_cases c15 : (rd l2 x32_2) > 144115188075855872
                  · rw [if_pos c15] at H
                    have c15b0 : decide (144115188075855872 < (rd l2 x32_2)) = true := decide_eq_true c15
                    clear c15
                    replace H := Option.bind_eq_some_iff.mp H
                    obtain ⟨t279, A160, H⟩ := H
                    replace H : (some t279) = some r := H
                    have A16 := Aside0.mk A160
                    clear A160
                    obtain rfl := Option.some.inj H
                    have p278 : 0 ≤ (x32_2 : Int) := of_decide_eq_true (by first | (with_reducible assumption) | assumption)
                    have q278 : x32_2 < (l2.length : Int) := of_decide_eq_true (by first | (with_reducible assumption) | assumption)
                    obtain ⟨ad278, e278, hx278_0⟩ := Kd.at_int HR2.out x32_2 p278 q278
                    cases e278
                    replace hx278_0 := (HB.out.cell (World.block_lt_of_cell? w _ hx278_0)).trans hx278_0
                    replace p278 := eq_true p278
                    replace q278 := eq_true q278
                    go_wp2_with (first | ((with_reducible refine gate_callee (f := 20) rfl ?_); refine goesL_ (some 42) rfl rfl Try.func20 (by kernel_rfl) rfl #[] rfl (by (try simp only [List.map_toArray, List.map_cons, List.map_nil]); first | done | rfl | (simp only [List.length_drop, List.length_take]; rfl)) ?_; (with_reducible refine (merkhetlaw15_fixed.calls k2  t279 _ A16.out).mono ?_); rintro e w17 ⟨rfl, hb⟩; refine ⟨_, rfl, ?_⟩; have n0_ := Aside0.mk (below_step (by repeat (first | (with_reducible first | exact HB.out | apply below_alloc | apply pw_below_drewN | apply below_drew1) | exact HB.out)) hb); clear HB; have HB := n0_; clear n0_; (try clear hb); (try clear hb2); (try clear hk); (try clear hi)))
                    go_ret
                    exact ⟨by first | rfl | (simp [errW_none, errW_some] <;> rfl) | (simp [*, errW_none, errW_some] <;> rfl), by repeat (first | (with_reducible first | exact HB.out | apply below_alloc | apply pw_below_drewN | apply below_drew1) | exact HB.out)⟩
                  · rw [if_neg c15] at H
                    have c15b0 : decide (144115188075855872 < (rd l2 x32_2)) = false := decide_eq_false c15
                    clear c15
                    by_cases c18 : (rd l2 x32_2) < (-144115188075855872)
                    · rw [if_pos c18] at H
                      have c18b0 : decide ((rd l2 x32_2) < (-144115188075855872)) = true := decide_eq_true c18
                      clear c18
                      replace H := Option.bind_eq_some_iff.mp H
                      obtain ⟨t280, A190, H⟩ := H
                      replace H : (some t280) = some r := H
                      have A19 := Aside0.mk A190
                      clear A190
                      obtain rfl := Option.some.inj H
                      have p278 : 0 ≤ (x32_2 : Int) := of_decide_eq_true (by first | (with_reducible assumption) | assumption)
                      have q278 : x32_2 < (l2.length : Int) := of_decide_eq_true (by first | (with_reducible assumption) | assumption)
                      obtain ⟨ad278, e278, hx278_0⟩ := Kd.at_int HR2.out x32_2 p278 q278
                      cases e278
                      replace hx278_0 := (HB.out.cell (World.block_lt_of_cell? w _ hx278_0)).trans hx278_0
                      replace p278 := eq_true p278
                      replace q278 := eq_true q278
                      go_wp2_with (first | ((with_reducible refine gate_callee (f := 20) rfl ?_); refine goesL_ (some 42) rfl rfl Try.func20 (by kernel_rfl) rfl #[] rfl (by (try simp only [List.map_toArray, List.map_cons, List.map_nil]); first | done | rfl | (simp only [List.length_drop, List.length_take]; rfl)) ?_; (with_reducible refine (merkhetlaw15_fixed.calls k2  t280 _ A19.out).mono ?_); rintro e w20 ⟨rfl, hb⟩; refine ⟨_, rfl, ?_⟩; have n0_ := Aside0.mk (below_step (by repeat (first | (with_reducible first | exact HB.out | apply below_alloc | apply pw_below_drewN | apply below_drew1) | exact HB.out)) hb); clear HB; have HB := n0_; clear n0_; (try clear hb); (try clear hb2); (try clear hk); (try clear hi)))
                      go_ret
                      exact ⟨by first | rfl | (simp [errW_none, errW_some] <;> rfl) | (simp [*, errW_none, errW_some] <;> rfl), by repeat (first | (with_reducible first | exact HB.out | apply below_alloc | apply pw_below_drewN | apply below_drew1) | exact HB.out)⟩
                    · rw [if_neg c18] at H
                      have c18b0 : decide ((rd l2 x32_2) < (-144115188075855872)) = false := decide_eq_false c18
                      clear c18
                      obtain ⟨ji21, hji21⟩ : ∃ j_ : Int, (mx x7_2 (rd l2 x32_2)) = j_ := ⟨_, rfl⟩
                      replace H : (merkhetlaw15_RelaxGreatest.l0 k2 a0 l1 l2 ji21 l2 (l2.length : Int) (wrap64 (x32_2 + 1))) = some r := by first | (rw [hji21] at H; exact H) | (simp only [hji21] at H ⊢; exact H)
                      have hji21_ : (if x7_2 < (rd l2 x32_2) then (rd l2 x32_2) else x7_2) = ji21 := hji21
                      have H' := Aside0.mk H
                      clear H
                      have p278 : 0 ≤ (x32_2 : Int) := of_decide_eq_true (by first | (with_reducible assumption) | assumption)
                      have q278 : x32_2 < (l2.length : Int) := of_decide_eq_true (by first | (with_reducible assumption) | assumption)
                      obtain ⟨ad278, e278, hx278_0⟩ := Kd.at_int HR2.out x32_2 p278 q278
                      cases e278
                      replace hx278_0 := (HB.out.cell (World.block_lt_of_cell? w _ hx278_0)).trans hx278_0
                      replace p278 := eq_true p278
                      replace q278 := eq_true q278
                      go_wp2
                      go_roundg k2
                      case measure => have := HJ3.out; have := HK2.out; omega
                      case rel => exact ⟨(ji21), (wrap64 (x32_2 + 1)), (by first | rfl | (simp; done) | (simp only [← hji21] <;> (first | rfl | simp)) | (simp [*]; done)), (by first | rfl | (simp; done) | (simp [*]; done)), H', ⟨by have := HJ3.out; have := HK2.out; omega⟩, ⟨by repeat (first | (with_reducible first | exact HB.out | apply below_alloc | apply pw_below_drewN | apply below_drew1) | exact HB.out)⟩⟩
                · rw [if_neg c14] at H
                  exact absurd H (by simp)
              · rw [if_neg c13] at H
                exact absurd H (by simp)
            · rw [if_neg c12] at H
              have c12b0 : decide (x32_2 < (l2.length : Int)) = false := decide_eq_false c12
              clear c12
              replace H := Option.bind_eq_some_iff.mp H
              obtain ⟨⟨t281, t284⟩, A220, H⟩ := H
              replace H : ((merkhetref14_All.f k2 l1 l2).bind fun t285 => (if t285 = true then (if t284 = true then (merkhetlaw15_RelaxGreatest.j2 k2 l2 x7_2 t281 ((t281.length : Int) != a0)) else (merkhetlaw15_RelaxGreatest.j2 k2 l2 x7_2 t281 true)) else ((merkhetlaw15_fixed.f k2).bind fun t286 => (some t286)))) = some r := H
              have A22 := Aside0.mk A220
              clear A220
              replace H := Option.bind_eq_some_iff.mp H
              obtain ⟨t285, A230, H⟩ := H
              replace H : (if t285 = true then (if t284 = true then (merkhetlaw15_RelaxGreatest.j2 k2 l2 x7_2 t281 ((t281.length : Int) != a0)) else (merkhetlaw15_RelaxGreatest.j2 k2 l2 x7_2 t281 true)) else ((merkhetlaw15_fixed.f k2).bind fun t286 => (some t286))) = some r := H
              have A23 := Aside0.mk A230
              clear A230
              by_cases c24 : t285 = true
              · subst c24
                have H1 : (if t284 = true then (merkhetlaw15_RelaxGreatest.j2 k2 l2 x7_2 t281 ((t281.length : Int) != a0)) else (merkhetlaw15_RelaxGreatest.j2 k2 l2 x7_2 t281 true)) = some r := by rw [if_pos rfl] at H; exact H
                clear H
                have H := H1
                clear H1
                have HC25 := Aside0.mk H
                clear H
                go_upto_region 14 with (first | ((with_reducible refine gate_callee (f := 27) rfl ?_); refine goesL_ (some 50) rfl rfl Try.func27 (by kernel_rfl) rfl #[.int .i64 a0, .slice A1 l1.length c1] rfl (by (try simp only [List.map_toArray, List.map_cons, List.map_nil]); first | done | rfl | (simp only [List.length_drop, List.length_take]; rfl)) ?_; (with_reducible refine (relax_Solve.calls k2 a0 _ _ l1 t281 t284 _ ?side1 ?side2 A22.out).mono ?_); (case side1 => repeat (first | exact (Kd.C_below HR1.out HB.out) | (with_reducible refine Kd.C_alloc ?_ _) | (with_reducible refine Kd.C_drewN ?_ _) | (with_reducible refine Kd.C_drew ?_))); (case side2 => exact HC1.out); rintro e w26 ⟨v282, rfl, ho0, hb⟩; refine ⟨_, rfl, ?_⟩; have n0_ := Aside0.mk (Kd.V_lower (Kd.V_mono (ok' := fun k_ => True) ho0 (fun k_ hk_ => trivial)) (below_size (by repeat (first | (with_reducible first | exact HB.out | apply below_alloc | apply pw_below_drewN | apply below_drew1) | exact HB.out)))); have n1_ := Aside0.mk (below_step (by repeat (first | (with_reducible first | exact HB.out | apply below_alloc | apply pw_below_drewN | apply below_drew1) | exact HB.out)) hb); clear HB; have HO283 := n0_; have HB := n1_; clear n0_ n1_; (try clear hb); (try clear hb2); (try clear hk); (try clear hi); (try clear ho0)) | ((with_reducible refine gate_callee (f := 29) rfl ?_); refine goesL_ (some 55) rfl rfl Try.func29 (by kernel_rfl) rfl #[.slice A1 l1.length c1, .slice A2 l2.length c2] rfl (by (try simp only [List.map_toArray, List.map_cons, List.map_nil]); first | done | rfl | (simp only [List.length_drop, List.length_take]; rfl)) ?_; (with_reducible refine (merkhetref14_All.calls k2 _ _ l1 _ _ l2 true _ ?side1 ?side2 ?side3 ?side4 A23.out).mono ?_); (case side1 => repeat (first | exact (Kd.C_below HR1.out HB.out) | (with_reducible refine Kd.C_alloc ?_ _) | (with_reducible refine Kd.C_drewN ?_ _) | (with_reducible refine Kd.C_drew ?_))); (case side2 => exact HC1.out); (case side3 => repeat (first | exact (Kd.C_below HR2.out HB.out) | (with_reducible refine Kd.C_alloc ?_ _) | (with_reducible refine Kd.C_drewN ?_ _) | (with_reducible refine Kd.C_drew ?_))); (case side4 => exact HC2.out); rintro e w27 ⟨rfl, hb⟩; refine ⟨_, rfl, ?_⟩; have n0_ := Aside0.mk (Kd.V_below (by (with_reducible repeat (first | apply Kd.V_alloc | apply Kd.V_drewN | apply Kd.V_drew)); exact HO283.out) hb); have n1_ := Aside0.mk (below_step (by repeat (first | (with_reducible first | exact HB.out | apply below_alloc | apply pw_below_drewN | apply below_drew1) | exact HB.out)) hb); clear HO283; clear HB; have HO283 := n0_; have HB := n1_; clear n0_ n1_; (try clear hb); (try clear hb2); (try clear hk); (try clear hi)))
                (try simp only [Act.put, List.setIfInBounds_toArray, List.set_cons_zero, List.set_cons_succ])
                go_cut [65] (fun v65 wc => ∃ (kq : Nat) (x65_24 : Bool), v65 = .bool x65_24 ∧ Aside0 (merkhetlaw15_RelaxGreatest.j2 kq l2 x7_2 t281 x65_24 = some r) ∧ Aside0 (kq ≤ k2) ∧ Aside0 (Kd.V (Kd.int .i64) 2 wc w.heap.size (fun _ => True) v282 t281) ∧ Aside0 (Below w.heap.size w wc))
                case first =>
                  have H := HC25.out
                  clear HC25
                  by_cases c28 : t284 = true
                  · subst c28
                    have H1 : (merkhetlaw15_RelaxGreatest.j2 k2 l2 x7_2 t281 ((t281.length : Int) != a0)) = some r := by rw [if_pos rfl] at H; exact H
                    clear H
                    have H := H1
                    clear H1
                    have H' := Aside0.mk H
                    clear H
                    obtain ⟨Ao29, co29, eo29⟩ := Kd.V_slice HO283.out
                    subst eo29
                    go_wp2
                    go_meet
                    case rel => exact ⟨_, (((t281.length : Int) != a0)), (by first | rfl | (simp; done) | (simp [*]; done)), H', ⟨by have := HJ3.out; have := HK2.out; first | omega | exact Nat.le_refl _⟩, ⟨by (with_reducible repeat (first | apply Kd.V_alloc | apply Kd.V_drewN | apply Kd.V_drew)); exact HO283.out⟩, ⟨by repeat (first | (with_reducible first | exact HB.out | apply below_alloc | apply pw_below_drewN | apply below_drew1) | exact HB.out)⟩⟩
                  · replace c28 := Bool.eq_false_iff.mpr c28
                    subst c28
                    have H1 : (merkhetlaw15_RelaxGreatest.j2 k2 l2 x7_2 t281 true) = some r := by rw [if_neg (show ¬ (false = true) by decide)] at H; exact H
                    clear H
                    have H := H1
                    clear H1
                    have H' := Aside0.mk H
                    clear H
                    go_wp2
                    go_meet
                    case rel => exact ⟨_, (true), (by first | rfl | (simp; done) | (simp [*]; done)), H', ⟨by have := HJ3.out; have := HK2.out; first | omega | exact Nat.le_refl _⟩, ⟨by (with_reducible repeat (first | apply Kd.V_alloc | apply Kd.V_drewN | apply Kd.V_drew)); exact HO283.out⟩, ⟨by repeat (first | (with_reducible first | exact HB.out | apply below_alloc | apply pw_below_drewN | apply below_drew1) | exact HB.out)⟩⟩
                case rest =>
                  clear HC25
                  try clear c1
                  try clear c2
                  try clear p2
                  try clear q2
                  try clear hx2
                  try clear c5
                  try clear c5b0
                  try clear c5b1
                  try clear c6
                  try clear c6b0
                  try clear c6b1
                  try clear p6
                  try clear c9
                  try clear c12
                  try clear c12b0
                  try clear c13
                  try clear c13b0
                  try clear c14
                  try clear c14b0
                  try clear c15
                  try clear c15b0
                  try clear c18
                  try clear c18b0
                  try clear c20
                  try clear c24
                  try clear c27
                  try clear p27
                  try clear q27
                  try clear hx27
                  try clear c28
                  try clear c29
                  try clear hx278_0
                  try clear p2
                  try clear p278
                  try clear q278
                  obtain ⟨kq, x65_24, rfl, HA, HJ24, HO_10, HB⟩ := hcut
                  cases kq with
                  | zero => exact absurd HA.out (by simp [merkhetlaw15_RelaxGreatest.j2])
                  | succ kj24 =>
                    have H := HA.out
                    clear HA
                    simp only [merkhetlaw15_RelaxGreatest.j2] at H
                    by_cases c30 : x65_24 = true
                    · subst c30
                      have H1 : (some false) = some r := by rw [if_pos rfl] at H; exact H
                      clear H
                      have H := H1
                      clear H1
                      obtain rfl := Option.some.inj H
                      go_wp2
                      go_ret
                      exact ⟨by first | rfl | (simp [errW_none, errW_some] <;> rfl) | (simp [*, errW_none, errW_some] <;> rfl), by repeat (first | (with_reducible first | exact HB.out | apply below_alloc | apply pw_below_drewN | apply below_drew1) | exact HB.out)⟩
                    · replace c30 := Bool.eq_false_iff.mpr c30
                      subst c30
                      have H1 : (merkhetlaw15_RelaxGreatest.l1 kj24 x7_2 t281 l2 (l2.length : Int) 0) = some r := by rw [if_neg (show ¬ (false = true) by decide)] at H; exact H
                      clear H
                      have H := H1
                      clear H1
                      have H' := Aside0.mk H
                      clear H
                      go_wp2
                      go_loopg [68] kj24 (fun kq v68 w' => ∃ (x68_4 : Int), v68 = .int .i64 x68_4 ∧ Aside0 (merkhetlaw15_RelaxGreatest.l1 kq x7_2 t281 l2 (l2.length : Int) x68_4 = some r) ∧ Aside0 (kq ≤ kj24) ∧ Aside0 (Kd.V (Kd.int .i64) 2 w' w.heap.size (fun _ => True) v282 t281) ∧ Aside0 (Below w.heap.size w w'))
                      case atStart => exact ⟨(0), (by first | rfl | (simp; done) | (simp [*]; done)), H', ⟨Nat.le_refl _⟩, ⟨by (with_reducible repeat (first | apply Kd.V_alloc | apply Kd.V_drewN | apply Kd.V_drew)); exact HO_10.out⟩, ⟨by repeat (first | (with_reducible first | exact HB.out | apply below_alloc | apply pw_below_drewN | apply below_drew1) | exact HB.out)⟩⟩
                      case round =>
                        clear H'
                        try clear c1
                        try clear c2
                        try clear p2
                        try clear q2
                        try clear hx2
                        try clear c3
                        try clear c5
                        try clear c5b0
                        try clear c5b1
                        try clear c6
                        try clear c6b0
                        try clear c6b1
                        try clear p6
                        try clear c9
                        try clear c12
                        try clear c12b0
                        try clear c13
                        try clear c13b0
                        try clear c14
                        try clear c14b0
                        try clear c15
                        try clear c15b0
                        try clear c18
                        try clear c18b0
                        try clear c20
                        try clear c24
                        try clear c27
                        try clear p27
                        try clear q27
                        try clear hx27
                        try clear c28
                        try clear c29
                        try clear c30
                        try clear hx278_0
                        try clear p2
                        try clear p27
                        try clear p278
                        try clear p6
                        try clear q2
                        try clear q27
                        try clear q278
                        obtain ⟨x68_4, rfl, HA, HK4, HO_10, HB⟩ := hrel
                        cases gk with
                        | zero => exact absurd HA.out (by simp [merkhetlaw15_RelaxGreatest.l1])
                        | succ k4 =>
                          have H := HA.out
                          clear HA
                          simp only [merkhetlaw15_RelaxGreatest.l1] at H
                          by_cases c31 : x68_4 < (l2.length : Int)
                          · rw [if_pos c31] at H
                            have c31b0 : decide (x68_4 < (l2.length : Int)) = true := decide_eq_true c31
                            clear c31
                            by_cases c32 : 0 ≤ x68_4
                            · rw [if_pos c32] at H
                              have c32b0 : decide (0 ≤ x68_4) = true := decide_eq_true c32
                              clear c32
                              by_cases c33 : x68_4 < (l2.length : Int)
                              · rw [if_pos c33] at H
                                have c33b0 : decide (x68_4 < (l2.length : Int)) = true := decide_eq_true c33
                                clear c33
                                by_cases c34 : x68_4 < (t281.length : Int)
                                · rw [if_pos c34] at H
                                  have c34b0 : decide (x68_4 < (t281.length : Int)) = true := decide_eq_true c34
                                  clear c34
                                  by_cases c35 : (wrap64 ((rd l2 x68_4) - x7_2)) > (rd t281 x68_4)
                                  · rw [if_pos c35] at H
                                    have c35b0 : decide ((rd t281 x68_4) < (wrap64 ((rd l2 x68_4) - x7_2))) = true := decide_eq_true c35
                                    clear c35
                                    obtain rfl := Option.some.inj H
                                    have p287 : 0 ≤ (x68_4 : Int) := of_decide_eq_true (by first | (with_reducible assumption) | assumption)
                                    have q287 : x68_4 < (l2.length : Int) := of_decide_eq_true (by first | (with_reducible assumption) | assumption)
                                    obtain ⟨ad287, e287, hx287_0⟩ := Kd.at_int HR2.out x68_4 p287 q287
                                    cases e287
                                    replace hx287_0 := (HB.out.cell (World.block_lt_of_cell? w _ hx287_0)).trans hx287_0
                                    replace p287 := eq_true p287
                                    replace q287 := eq_true q287
                                    obtain ⟨Ao36, co36, eo36⟩ := Kd.V_slice HO_10.out
                                    subst eo36
                                    have p288 : 0 ≤ (x68_4 : Int) := of_decide_eq_true (by first | (with_reducible assumption) | assumption)
                                    have q288 : x68_4 < (t281.length : Int) := of_decide_eq_true (by first | (with_reducible assumption) | assumption)
                                    obtain ⟨ad288, e288, hx288_0⟩ := Kd.at_int (Kd.V_reads' HO_10.out).2.2 x68_4 p288 q288
                                    cases e288
                                    replace p288 := eq_true p288
                                    replace q288 := eq_true q288
                                    go_wp2
                                    go_ret
                                    exact ⟨by first | rfl | (simp [errW_none, errW_some] <;> rfl) | (simp [*, errW_none, errW_some] <;> rfl), by repeat (first | (with_reducible first | exact HB.out | apply below_alloc | apply pw_below_drewN | apply below_drew1) | exact HB.out)⟩
                                  · rw [if_neg c35] at H
                                    have c35b0 : decide ((rd t281 x68_4) < (wrap64 ((rd l2 x68_4) - x7_2))) = false := decide_eq_false c35
                                    clear c35
                                    have H' := Aside0.mk H
                                    clear H
                                    have p287 : 0 ≤ (x68_4 : Int) := of_decide_eq_true (by first | (with_reducible assumption) | assumption)
                                    have q287 : x68_4 < (l2.length : Int) := of_decide_eq_true (by first | (with_reducible assumption) | assumption)
                                    obtain ⟨ad287, e287, hx287_0⟩ := Kd.at_int HR2.out x68_4 p287 q287
                                    cases e287
                                    replace hx287_0 := (HB.out.cell (World.block_lt_of_cell? w _ hx287_0)).trans hx287_0
                                    replace p287 := eq_true p287
                                    replace q287 := eq_true q287
                                    obtain ⟨Ao37, co37, eo37⟩ := Kd.V_slice HO_10.out
                                    subst eo37
                                    have p288 : 0 ≤ (x68_4 : Int) := of_decide_eq_true (by first | (with_reducible assumption) | assumption)
                                    have q288 : x68_4 < (t281.length : Int) := of_decide_eq_true (by first | (with_reducible assumption) | assumption)
                                    obtain ⟨ad288, e288, hx288_0⟩ := Kd.at_int (Kd.V_reads' HO_10.out).2.2 x68_4 p288 q288
                                    cases e288
                                    replace p288 := eq_true p288
                                    replace q288 := eq_true q288
                                    go_wp2
                                    go_roundg k4
                                    case measure => have := HJ3.out; have := HK2.out; have := HJ24.out; have := HK4.out; omega
                                    case rel => exact ⟨(wrap64 (x68_4 + 1)), (by first | rfl | (simp; done) | (simp [*]; done)), H', ⟨by have := HJ3.out; have := HK2.out; have := HJ24.out; have := HK4.out; omega⟩, ⟨by (with_reducible repeat (first | apply Kd.V_alloc | apply Kd.V_drewN | apply Kd.V_drew)); exact HO_10.out⟩, ⟨by repeat (first | (with_reducible first | exact HB.out | apply below_alloc | apply pw_below_drewN | apply below_drew1) | exact HB.out)⟩⟩
                                · rw [if_neg c34] at H
                                  exact absurd H (by simp)
                              · rw [if_neg c33] at H
                                exact absurd H (by simp)
                            · rw [if_neg c32] at H
                              exact absurd H (by simp)
                          · rw [if_neg c31] at H
                            have c31b0 : decide (x68_4 < (l2.length : Int)) = false := decide_eq_false c31
                            clear c31
                            replace H := Option.bind_eq_some_iff.mp H
                            obtain ⟨t289, A380, H⟩ := H
                            replace H : (some t289) = some r := H
                            have A38 := Aside0.mk A380
                            clear A380
                            obtain rfl := Option.some.inj H
                            go_wp2_with (first | ((with_reducible refine gate_callee (f := 20) rfl ?_); refine goesL_ (some 82) rfl rfl Try.func20 (by kernel_rfl) rfl #[] rfl (by (try simp only [List.map_toArray, List.map_cons, List.map_nil]); first | done | rfl | (simp only [List.length_drop, List.length_take]; rfl)) ?_; (with_reducible refine (merkhetlaw15_fixed.calls k4  t289 _ A38.out).mono ?_); rintro e w39 ⟨rfl, hb⟩; refine ⟨_, rfl, ?_⟩; have n0_ := Aside0.mk (Kd.V_below (by (with_reducible repeat (first | apply Kd.V_alloc | apply Kd.V_drewN | apply Kd.V_drew)); exact HO_10.out) hb); have n1_ := Aside0.mk (below_step (by repeat (first | (with_reducible first | exact HB.out | apply below_alloc | apply pw_below_drewN | apply below_drew1) | exact HB.out)) hb); clear HO_10; clear HB; have HO_10 := n0_; have HB := n1_; clear n0_ n1_; (try clear hb); (try clear hb2); (try clear hk); (try clear hi)))
                            go_ret
                            exact ⟨by first | rfl | (simp [errW_none, errW_some] <;> rfl) | (simp [*, errW_none, errW_some] <;> rfl), by repeat (first | (with_reducible first | exact HB.out | apply below_alloc | apply pw_below_drewN | apply below_drew1) | exact HB.out)⟩
              · replace c24 := Bool.eq_false_iff.mpr c24
                subst c24
                have H1 : ((merkhetlaw15_fixed.f k2).bind fun t286 => (some t286)) = some r := by rw [if_neg (show ¬ (false = true) by decide)] at H; exact H
                clear H
                have H := H1
                clear H1
                replace H := Option.bind_eq_some_iff.mp H
                obtain ⟨t286, A400, H⟩ := H
                replace H : (some t286) = some r := H
                have A40 := Aside0.mk A400
                clear A400
                obtain rfl := Option.some.inj H
                go_wp2_with (first | ((with_reducible refine gate_callee (f := 27) rfl ?_); refine goesL_ (some 50) rfl rfl Try.func27 (by kernel_rfl) rfl #[.int .i64 a0, .slice A1 l1.length c1] rfl (by (try simp only [List.map_toArray, List.map_cons, List.map_nil]); first | done | rfl | (simp only [List.length_drop, List.length_take]; rfl)) ?_; (with_reducible refine (relax_Solve.calls k2 a0 _ _ l1 t281 t284 _ ?side1 ?side2 A22.out).mono ?_); (case side1 => repeat (first | exact (Kd.C_below HR1.out HB.out) | (with_reducible refine Kd.C_alloc ?_ _) | (with_reducible refine Kd.C_drewN ?_ _) | (with_reducible refine Kd.C_drew ?_))); (case side2 => exact HC1.out); rintro e w41 ⟨v282, rfl, ho0, hb⟩; refine ⟨_, rfl, ?_⟩; have n0_ := Aside0.mk (Kd.V_lower (Kd.V_mono (ok' := fun k_ => True) ho0 (fun k_ hk_ => trivial)) (below_size (by repeat (first | (with_reducible first | exact HB.out | apply below_alloc | apply pw_below_drewN | apply below_drew1) | exact HB.out)))); have n1_ := Aside0.mk (below_step (by repeat (first | (with_reducible first | exact HB.out | apply below_alloc | apply pw_below_drewN | apply below_drew1) | exact HB.out)) hb); clear HB; have HO283 := n0_; have HB := n1_; clear n0_ n1_; (try clear hb); (try clear hb2); (try clear hk); (try clear hi); (try clear ho0)) | ((with_reducible refine gate_callee (f := 29) rfl ?_); refine goesL_ (some 55) rfl rfl Try.func29 (by kernel_rfl) rfl #[.slice A1 l1.length c1, .slice A2 l2.length c2] rfl (by (try simp only [List.map_toArray, List.map_cons, List.map_nil]); first | done | rfl | (simp only [List.length_drop, List.length_take]; rfl)) ?_; (with_reducible refine (merkhetref14_All.calls k2 _ _ l1 _ _ l2 false _ ?side1 ?side2 ?side3 ?side4 A23.out).mono ?_); (case side1 => repeat (first | exact (Kd.C_below HR1.out HB.out) | (with_reducible refine Kd.C_alloc ?_ _) | (with_reducible refine Kd.C_drewN ?_ _) | (with_reducible refine Kd.C_drew ?_))); (case side2 => exact HC1.out); (case side3 => repeat (first | exact (Kd.C_below HR2.out HB.out) | (with_reducible refine Kd.C_alloc ?_ _) | (with_reducible refine Kd.C_drewN ?_ _) | (with_reducible refine Kd.C_drew ?_))); (case side4 => exact HC2.out); rintro e w42 ⟨rfl, hb⟩; refine ⟨_, rfl, ?_⟩; have n0_ := Aside0.mk (Kd.V_below (by (with_reducible repeat (first | apply Kd.V_alloc | apply Kd.V_drewN | apply Kd.V_drew)); exact HO283.out) hb); have n1_ := Aside0.mk (below_step (by repeat (first | (with_reducible first | exact HB.out | apply below_alloc | apply pw_below_drewN | apply below_drew1) | exact HB.out)) hb); clear HO283; clear HB; have HO283 := n0_; have HB := n1_; clear n0_ n1_; (try clear hb); (try clear hb2); (try clear hk); (try clear hi)) | ((with_reducible refine gate_callee (f := 20) rfl ?_); refine goesL_ (some 57) rfl rfl Try.func20 (by kernel_rfl) rfl #[] rfl (by (try simp only [List.map_toArray, List.map_cons, List.map_nil]); first | done | rfl | (simp only [List.length_drop, List.length_take]; rfl)) ?_; (with_reducible refine (merkhetlaw15_fixed.calls k2  t286 _ A40.out).mono ?_); rintro e w43 ⟨rfl, hb⟩; refine ⟨_, rfl, ?_⟩; have n0_ := Aside0.mk (Kd.V_below (by (with_reducible repeat (first | apply Kd.V_alloc | apply Kd.V_drewN | apply Kd.V_drew)); exact HO283.out) hb); have n1_ := Aside0.mk (below_step (by repeat (first | (with_reducible first | exact HB.out | apply below_alloc | apply pw_below_drewN | apply below_drew1) | exact HB.out)) hb); clear HO283; clear HB; have HO283 := n0_; have HB := n1_; clear n0_ n1_; (try clear hb); (try clear hb2); (try clear hk); (try clear hi)))
                go_ret
                exact ⟨by first | rfl | (simp [errW_none, errW_some] <;> rfl) | (simp [*, errW_none, errW_some] <;> rfl), by repeat (first | (with_reducible first | exact HB.out | apply below_alloc | apply pw_below_drewN | apply below_drew1) | exact HB.out)⟩

/-- THE ONE PURE STATEMENT of merkhetlaw15_RelaxGreatest. -/
def merkhetlaw15_RelaxGreatest.Pure : Prop := ∀ (a0 : Int) (l1 : List (S48)) (l2 : List Int), (Lit.int .i64 a0).wf = true → l1.length ≤ maxLen → (∀ x0_ ∈ l1, ((Lit.int .i64 x0_.f0).wf = true ∧ (Lit.int .i64 x0_.f1).wf = true ∧ (Lit.int .i64 x0_.f2).wf = true ∧ ((Lit.int .i64 x0_.f3.f0).wf = true ∧ (Lit.int .i64 x0_.f3.f1).wf = true) ∧ True)) → l2.length ≤ maxLen → l2.length * 8 ≤ 140737488351232 → (∀ x0_ ∈ l2, (Lit.int .i64 x0_).wf = true) → ∃ k, merkhetlaw15_RelaxGreatest.f k a0 l1 l2 = some true

end Go.Proofs.Ytacjlaiddnfpdaa.L
