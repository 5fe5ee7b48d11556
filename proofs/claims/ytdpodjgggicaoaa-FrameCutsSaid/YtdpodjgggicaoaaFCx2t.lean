-- WRITTEN FOR THIS CLAIM by wip/tools/mp.py, a program of this project that drives the kit's print; the functions that the print does not take are this project's own texts.
import Derived.Test.YtdpodjgggicaoaaFCx0t
import Derived.Test.YtdpodjgggicaoaaFCx1t
namespace Go.Proofs.Ytdpodjgggicaoaa.FC
open Go.RowKit Go.Proofs.YtdpodjgggicaoaaW.PrintWords Go.Proofs.YtdpodjgggicaoaaW.PrintLast Go.Proofs.YtdpodjgggicaoaaW.PrintMore
attribute [local go_sem] max2_int min2_int max_two min_two max_three min_three max_four min_four   -- for this text's walks alone
set_option linter.unusedVariables false
set_option linter.unusedSimpArgs false
mutual
def frame_Get.j0 : Nat → List Int → Int → Bool → Option (List Int × Int × Int)
  | 0, _, _, _ => none
  | k + 1, x0, x1, x18 => if x18 = true then (some (([] : List Int), 0, 5)) else ((pack_Get.f k x0 x1 2).bind fun bt130 => ((pack_Get.f k x0 (wrap64 (x1 + 2)) 4).bind fun bt132 => (if bt132.2 = true then (if bt130.1 = 0 then (frame_Get.j1 k x0 x1 bt130.1 bt132.1 true) else (frame_Get.j1 k x0 x1 bt130.1 bt132.1 (decide (bt130.1 > 2406)))) else (some (([] : List Int), 0, 2)))))
def frame_Get.j1 : Nat → List Int → Int → Int → Int → Bool → Option (List Int × Int × Int)
  | 0, _, _, _, _, _ => none
  | k + 1, x0, x1, x7, x9, x35 => if x35 = true then (some (([] : List Int), 0, 3)) else (if (wrap64 ((wrap64 ((x0.length : Int) - x1)) - 6)) < (wrap64 (x7)) then (some (([] : List Int), 0, 2)) else (if 0 ≤ (wrap64 (x1 + 6)) then (if (wrap64 (x1 + 6)) ≤ (wrap64 ((wrap64 (x1 + 6)) + (wrap64 (x7)))) then (if (wrap64 ((wrap64 (x1 + 6)) + (wrap64 (x7)))) ≤ (x0.length : Int) then ((slices_Clone_byte_byte.f ((x0.take ((wrap64 ((wrap64 (x1 + 6)) + (wrap64 (x7)))) : Int).toNat).drop ((wrap64 (x1 + 6)) : Int).toNat)).bind fun t135 => ((frame_sum.f t135).bind fun t138 => (if x9 = (IntKind.u64.wrap (t138)) then (some (t135, wrap64 ((wrap64 (x1 + 6)) + (wrap64 (x7))), 0)) else (some (([] : List Int), 0, 8))))) else (none)) else (none)) else (none)))
end
def frame_Get.f (k : Nat) (l0 : List Int) (a1 : Int) : Option (List Int × Int × Int) := if a1 < 0 then (frame_Get.j0 k l0 a1 true) else (frame_Get.j0 k l0 a1 (decide (a1 ≥ (l0.length : Int))))
theorem frame_Get.mono_l : ∀ k, (∀ y0 y1 y2, LeO (frame_Get.j0 k y0 y1 y2) (frame_Get.j0 (k + 1) y0 y1 y2)) ∧ (∀ y0 y1 y2 y3 y4, LeO (frame_Get.j1 k y0 y1 y2 y3 y4) (frame_Get.j1 (k + 1) y0 y1 y2 y3 y4))
  | 0 => ⟨fun _ _ _ r h => by simp [frame_Get.j0] at h, fun _ _ _ _ _ r h => by simp [frame_Get.j1] at h⟩
  | k + 1 => by
    obtain ⟨ih0, ih1⟩ := frame_Get.mono_l k
    refine ⟨?_, ?_⟩
    · intro y0 y1 y2
      unfold frame_Get.j0
      repeat' first
      | (with_reducible exact ih0 _ _ _)
      | (with_reducible exact ih1 _ _ _ _ _)
      | (with_reducible exact pack_Get.mono _ _ _ _)
      | (with_reducible exact LeO.refl _)
      | (with_reducible exact LeO.none _)
      | (with_reducible refine LeO.ite ?_ ?_)
      | (with_reducible refine LeO.bind ?_ (fun _ => ?_))
      | exact ih0 _ _ _
      | exact ih1 _ _ _ _ _
      | exact pack_Get.mono _ _ _ _
      | exact LeO.none _
      | refine LeO.ite ?_ ?_
      | refine LeO.bind ?_ (fun _ => ?_)
    · intro y0 y1 y2 y3 y4
      unfold frame_Get.j1
      repeat' first
      | (with_reducible exact ih0 _ _ _)
      | (with_reducible exact ih1 _ _ _ _ _)
      | (with_reducible exact pack_Get.mono _ _ _ _)
      | (with_reducible exact LeO.refl _)
      | (with_reducible exact LeO.none _)
      | (with_reducible refine LeO.ite ?_ ?_)
      | (with_reducible refine LeO.bind ?_ (fun _ => ?_))
      | exact ih0 _ _ _
      | exact ih1 _ _ _ _ _
      | exact pack_Get.mono _ _ _ _
      | exact LeO.none _
      | refine LeO.ite ?_ ?_
      | refine LeO.bind ?_ (fun _ => ?_)
theorem frame_Get.mono : ∀ a0 a1 k, LeO (frame_Get.f k a0 a1) (frame_Get.f (k + 1) a0 a1) := by
  intro a0 a1 k
  obtain ⟨ih0, ih1⟩ := frame_Get.mono_l k
  unfold frame_Get.f
  repeat' first
      | (with_reducible exact ih0 _ _ _)
      | (with_reducible exact ih1 _ _ _ _ _)
      | (with_reducible exact pack_Get.mono _ _ _ _)
      | (with_reducible exact LeO.refl _)
      | (with_reducible exact LeO.none _)
      | (with_reducible refine LeO.ite ?_ ?_)
      | (with_reducible refine LeO.bind ?_ (fun _ => ?_))
      | exact ih0 _ _ _
      | exact ih1 _ _ _ _ _
      | exact pack_Get.mono _ _ _ _
      | exact LeO.none _
      | refine LeO.ite ?_ ?_
      | refine LeO.bind ?_ (fun _ => ?_)
set_option maxHeartbeats 8000000 in
set_option maxRecDepth 100000 in
theorem frame_Get.calls (k : Nat) (A0 : Option Addr) (c0 : Nat) (l0 : List Int) (a1 : Int) (r1 : List Int) (r2 : Int) (r3 : Int) (w : World) (hr0 : Kd.C (Kd.int .u8) w A0 l0.length l0) (hc0 : l0.length ≤ c0) (h : frame_Get.f k l0 a1 = some (r1, r2, r3)) :
    Calls Try.prog 22 #[.slice A0 l0.length c0, .int .i64 a1] w fun e w' => ∃ v0_ : Value, e = .returned (.tuple #[v0_, .int .i64 r2, .int .i64 r3]) ∧ Kd.R (Kd.int .u8) 5 w' w.heap.size (fun _ => True) v0_ r1 ∧ Below w.heap.size w w' := by
  have HR0 := Aside0.mk hr0
  have HC0 := Aside0.mk hc0
  clear hr0 hc0
  have HB := Aside0.mk (Below.refl w.heap.size w)
  have H : (if a1 < 0 then (frame_Get.j0 k l0 a1 true) else (frame_Get.j0 k l0 a1 (decide (a1 ≥ (l0.length : Int))))) = some (r1, r2, r3) := h
  clear h
  have HC3 := Aside0.mk H
  clear H
  go_enter Try.func22, Try.ntmps22
  go_upto_region 1 with (fail)
  go_cut [18] (fun v18 wc => ∃ (kq : Nat) (x18_2 : Bool), v18 = .bool x18_2 ∧ Aside0 (frame_Get.j0 kq l0 a1 x18_2 = some (r1, r2, r3)) ∧ Aside0 (kq ≤ k) ∧ Aside0 (Below w.heap.size w wc))
  case first =>
    have H := HC3.out
    clear HC3
    by_cases c4 : a1 < 0
    · rw [if_pos c4] at H
      have c4b0 : decide (a1 < 0) = true := decide_eq_true c4
      clear c4
      (first | rw [c4b0] | (simp only [i64_w, i32_w]; rw [c4b0]) | skip)
      have H' := Aside0.mk H
      clear H
      go_wp2
      go_meet
      case rel => exact ⟨_, (true), (by first | rfl | (simp; done) | (simp [*]; done)), H', ⟨by first | omega | exact Nat.le_refl _⟩, ⟨by repeat (first | (with_reducible first | exact HB.out | apply below_alloc | apply pw_below_drewN | apply below_drew1) | exact HB.out)⟩⟩
    · rw [if_neg c4] at H
      have c4b0 : decide (a1 < 0) = false := decide_eq_false c4
      clear c4
      (first | rw [c4b0] | (simp only [i64_w, i32_w]; rw [c4b0]) | skip)
      have H' := Aside0.mk H
      clear H
      go_wp2
      go_meet
      case rel => exact ⟨_, (decide (a1 ≥ (l0.length : Int))), (by first | rfl | (simp; done) | (simp [*]; done)), H', ⟨by first | omega | exact Nat.le_refl _⟩, ⟨by repeat (first | (with_reducible first | exact HB.out | apply below_alloc | apply pw_below_drewN | apply below_drew1) | exact HB.out)⟩⟩
  case rest =>
    clear HC3
    try clear c2
    try clear p2
    try clear c4
    try clear c4b0
    obtain ⟨kq, x18_2, rfl, HA, HJ2, HB⟩ := hcut
    cases kq with
    | zero => exact absurd HA.out (by simp [frame_Get.j0])
    | succ kj2 =>
      have H := HA.out
      clear HA
      simp only [frame_Get.j0] at H
      by_cases c5 : x18_2 = true
      · subst c5
        have H1 : (some (([] : List Int), 0, 5)) = some (r1, r2, r3) := by rw [if_pos rfl] at H; exact H
        clear H
        have H := H1
        clear H1
        simp only [Option.some.injEq, Prod.mk.injEq] at H
        obtain ⟨rfl, rfl, rfl⟩ := H
        go_wp2
        go_ret3
        exact ⟨_, by first | rfl | (simp [errW_none, errW_some] <;> rfl) | (simp [*, errW_none, errW_some] <;> rfl), by first | exact Kd.R_nil _ _ _ _ _ | exact Kd.N_nil _ _ _ _ _ | exact Kd.V_nil _ _ _ _ _ | exact Kd.Q_nil _ _ _ _ _ | exact Kd.S_nil _ _ _ _ _, by repeat (first | (with_reducible first | exact HB.out | apply below_alloc | apply pw_below_drewN | apply below_drew1) | exact HB.out)⟩
      · replace c5 := Bool.eq_false_iff.mpr c5
        subst c5
        have H1 : ((pack_Get.f kj2 l0 a1 2).bind fun bt130 => ((pack_Get.f kj2 l0 (wrap64 (a1 + 2)) 4).bind fun bt132 => (if bt132.2 = true then (if bt130.1 = 0 then (frame_Get.j1 kj2 l0 a1 bt130.1 bt132.1 true) else (frame_Get.j1 kj2 l0 a1 bt130.1 bt132.1 (decide (bt130.1 > 2406)))) else (some (([] : List Int), 0, 2))))) = some (r1, r2, r3) := by rw [if_neg (show ¬ (false = true) by decide)] at H; exact H
        clear H
        have H := H1
        clear H1
        replace H := Option.bind_eq_some_iff.mp H
        obtain ⟨⟨t130, t131⟩, A60, H⟩ := H
        replace H : ((pack_Get.f kj2 l0 (wrap64 (a1 + 2)) 4).bind fun bt132 => (if bt132.2 = true then (if t130 = 0 then (frame_Get.j1 kj2 l0 a1 t130 bt132.1 true) else (frame_Get.j1 kj2 l0 a1 t130 bt132.1 (decide (t130 > 2406)))) else (some (([] : List Int), 0, 2)))) = some (r1, r2, r3) := H
        have A6 := Aside0.mk A60
        clear A60
        replace H := Option.bind_eq_some_iff.mp H
        obtain ⟨⟨t132, t133⟩, A70, H⟩ := H
        replace H : (if t133 = true then (if t130 = 0 then (frame_Get.j1 kj2 l0 a1 t130 t132 true) else (frame_Get.j1 kj2 l0 a1 t130 t132 (decide (t130 > 2406)))) else (some (([] : List Int), 0, 2))) = some (r1, r2, r3) := H
        have A7 := Aside0.mk A70
        clear A70
        by_cases c8 : t133 = true
        · subst c8
          have H1 : (if t130 = 0 then (frame_Get.j1 kj2 l0 a1 t130 t132 true) else (frame_Get.j1 kj2 l0 a1 t130 t132 (decide (t130 > 2406)))) = some (r1, r2, r3) := by rw [if_pos rfl] at H; exact H
          clear H
          have H := H1
          clear H1
          have HC9 := Aside0.mk H
          clear H
          go_upto_region 7 with (first | ((with_reducible refine gate_callee (f := 43) rfl ?_); refine goesL_ (some 22) rfl rfl Try.func43 (by kernel_rfl) rfl #[.slice A0 l0.length c0, .int .i64 a1, .int .i64 2] rfl (by (try simp only [List.map_toArray, List.map_cons, List.map_nil]); first | done | rfl | (simp only [List.length_drop, List.length_take]; rfl) | (rw [Go.Proofs.Ytdpodjgggicaoaa.H.u64_id _ (by simp only [decide_eq_false_iff_not, decide_eq_true_eq, Nat.not_lt, Int.not_lt] at *; omega) (by simp only [decide_eq_false_iff_not, decide_eq_true_eq, Nat.not_lt, Int.not_lt] at *; omega)]; rfl)) ?_; (with_reducible refine (pack_Get.calls kj2 _ _ l0 a1 2 t130 t131 _ ?side1 ?side2 A6.out).mono ?_); (case side1 => repeat (first | exact (Kd.C_below HR0.out HB.out) | (with_reducible refine Kd.C_alloc ?_ _) | (with_reducible refine Kd.C_drewN ?_ _) | (with_reducible refine Kd.C_drew ?_))); (case side2 => exact HC0.out); rintro e w10 ⟨rfl, hb⟩; refine ⟨_, rfl, ?_⟩; have n0_ := Aside0.mk (below_step (by repeat (first | (with_reducible first | exact HB.out | apply below_alloc | apply pw_below_drewN | apply below_drew1) | exact HB.out)) hb); clear HB; have HB := n0_; clear n0_; (try clear hb); (try clear hb2); (try clear hk); (try clear hi)) | ((with_reducible refine gate_callee (f := 43) rfl ?_); refine goesL_ (some 29) rfl rfl Try.func43 (by kernel_rfl) rfl #[.slice A0 l0.length c0, .int .i64 (wrap64 (a1 + 2)), .int .i64 4] rfl (by (try simp only [List.map_toArray, List.map_cons, List.map_nil]); first | done | rfl | (simp only [List.length_drop, List.length_take]; rfl) | (rw [Go.Proofs.Ytdpodjgggicaoaa.H.u64_id _ (by simp only [decide_eq_false_iff_not, decide_eq_true_eq, Nat.not_lt, Int.not_lt] at *; omega) (by simp only [decide_eq_false_iff_not, decide_eq_true_eq, Nat.not_lt, Int.not_lt] at *; omega)]; rfl)) ?_; (with_reducible refine (pack_Get.calls kj2 _ _ l0 (wrap64 (a1 + 2)) 4 t132 true _ ?side1 ?side2 A7.out).mono ?_); (case side1 => repeat (first | exact (Kd.C_below HR0.out HB.out) | (with_reducible refine Kd.C_alloc ?_ _) | (with_reducible refine Kd.C_drewN ?_ _) | (with_reducible refine Kd.C_drew ?_))); (case side2 => exact HC0.out); rintro e w11 ⟨rfl, hb⟩; refine ⟨_, rfl, ?_⟩; have n0_ := Aside0.mk (below_step (by repeat (first | (with_reducible first | exact HB.out | apply below_alloc | apply pw_below_drewN | apply below_drew1) | exact HB.out)) hb); clear HB; have HB := n0_; clear n0_; (try clear hb); (try clear hb2); (try clear hk); (try clear hi)))
          (try simp only [Act.put, List.setIfInBounds_toArray, List.set_cons_zero, List.set_cons_succ])
          go_cut [35] (fun v35 wc => ∃ (kq : Nat) (x35_8 : Bool), v35 = .bool x35_8 ∧ Aside0 (frame_Get.j1 kq l0 a1 t130 t132 x35_8 = some (r1, r2, r3)) ∧ Aside0 (kq ≤ kj2) ∧ Aside0 (Below w.heap.size w wc))
          case first =>
            have H := HC9.out
            clear HC9
            by_cases c12 : t130 = 0
            · rw [if_pos c12] at H
              have c12b0 : (t130 == 0) = true := beq_iff_eq.mpr c12
              have c12b1 : (t130 != 0) = false := bne_eq_false_iff_eq.mpr c12
              clear c12
              (first | rw [c12b0] | (simp only [i64_w, i32_w]; rw [c12b0]) | skip)
              have H' := Aside0.mk H
              clear H
              go_wp2
              go_meet
              case rel => exact ⟨_, (true), (by first | rfl | (simp; done) | (simp [*]; done)), H', ⟨by have := HJ2.out; first | omega | exact Nat.le_refl _⟩, ⟨by repeat (first | (with_reducible first | exact HB.out | apply below_alloc | apply pw_below_drewN | apply below_drew1) | exact HB.out)⟩⟩
            · rw [if_neg c12] at H
              have c12b0 : (t130 == 0) = false := beq_eq_false_iff_ne.mpr c12
              have c12b1 : (t130 != 0) = true := bne_iff_ne.mpr c12
              (first | rw [c12b0] | (simp only [i64_w, i32_w]; rw [c12b0]) | skip)
              have H' := Aside0.mk H
              clear H
              go_wp2
              go_meet
              case rel => exact ⟨_, (decide (t130 > 2406)), (by first | rfl | (simp; done) | (simp [*]; done)), H', ⟨by have := HJ2.out; first | omega | exact Nat.le_refl _⟩, ⟨by repeat (first | (with_reducible first | exact HB.out | apply below_alloc | apply pw_below_drewN | apply below_drew1) | exact HB.out)⟩⟩
          case rest =>
            clear HC9
            try clear c1
            try clear c2
            try clear p2
            try clear c4
            try clear c4b0
            try clear c5
            try clear p6
            try clear c8
            try clear c12
            try clear c12b0
            try clear c12b1
            try clear p2
            obtain ⟨kq, x35_8, rfl, HA, HJ8, HB⟩ := hcut
            cases kq with
            | zero => exact absurd HA.out (by simp [frame_Get.j1])
            | succ kj8 =>
              have H := HA.out
              clear HA
              simp only [frame_Get.j1] at H
              by_cases c13 : x35_8 = true
              · subst c13
                have H1 : (some (([] : List Int), 0, 3)) = some (r1, r2, r3) := by rw [if_pos rfl] at H; exact H
                clear H
                have H := H1
                clear H1
                simp only [Option.some.injEq, Prod.mk.injEq] at H
                obtain ⟨rfl, rfl, rfl⟩ := H
                go_wp2
                go_ret3
                exact ⟨_, by first | rfl | (simp [errW_none, errW_some] <;> rfl) | (simp [*, errW_none, errW_some] <;> rfl), by first | exact Kd.R_nil _ _ _ _ _ | exact Kd.N_nil _ _ _ _ _ | exact Kd.V_nil _ _ _ _ _ | exact Kd.Q_nil _ _ _ _ _ | exact Kd.S_nil _ _ _ _ _, by repeat (first | (with_reducible first | exact HB.out | apply below_alloc | apply pw_below_drewN | apply below_drew1) | exact HB.out)⟩
              · replace c13 := Bool.eq_false_iff.mpr c13
                subst c13
                have H1 : (if (wrap64 ((wrap64 ((l0.length : Int) - a1)) - 6)) < (wrap64 (t130)) then (some (([] : List Int), 0, 2)) else (if 0 ≤ (wrap64 (a1 + 6)) then (if (wrap64 (a1 + 6)) ≤ (wrap64 ((wrap64 (a1 + 6)) + (wrap64 (t130)))) then (if (wrap64 ((wrap64 (a1 + 6)) + (wrap64 (t130)))) ≤ (l0.length : Int) then ((slices_Clone_byte_byte.f ((l0.take ((wrap64 ((wrap64 (a1 + 6)) + (wrap64 (t130)))) : Int).toNat).drop ((wrap64 (a1 + 6)) : Int).toNat)).bind fun t135 => ((frame_sum.f t135).bind fun t138 => (if t132 = (IntKind.u64.wrap (t138)) then (some (t135, wrap64 ((wrap64 (a1 + 6)) + (wrap64 (t130))), 0)) else (some (([] : List Int), 0, 8))))) else (none)) else (none)) else (none))) = some (r1, r2, r3) := by rw [if_neg (show ¬ (false = true) by decide)] at H; exact H
                clear H
                have H := H1
                clear H1
                by_cases c14 : (wrap64 ((wrap64 ((l0.length : Int) - a1)) - 6)) < (wrap64 (t130))
                · rw [if_pos c14] at H
                  have c14b0 : decide ((wrap64 ((wrap64 ((l0.length : Int) - a1)) - 6)) < (wrap64 (t130))) = true := decide_eq_true c14
                  clear c14
                  simp only [Option.some.injEq, Prod.mk.injEq] at H
                  obtain ⟨rfl, rfl, rfl⟩ := H
                  go_wp2
                  go_ret3
                  exact ⟨_, by first | rfl | (simp [errW_none, errW_some] <;> rfl) | (simp [*, errW_none, errW_some] <;> rfl), by first | exact Kd.R_nil _ _ _ _ _ | exact Kd.N_nil _ _ _ _ _ | exact Kd.V_nil _ _ _ _ _ | exact Kd.Q_nil _ _ _ _ _ | exact Kd.S_nil _ _ _ _ _, by repeat (first | (with_reducible first | exact HB.out | apply below_alloc | apply pw_below_drewN | apply below_drew1) | exact HB.out)⟩
                · rw [if_neg c14] at H
                  have c14b0 : decide ((wrap64 ((wrap64 ((l0.length : Int) - a1)) - 6)) < (wrap64 (t130))) = false := decide_eq_false c14
                  clear c14
                  obtain ⟨ji15, hji15⟩ : ∃ j_ : Int, (wrap64 (a1 + 6)) = j_ := ⟨_, rfl⟩
                  replace H : (if 0 ≤ (ji15) then (if (ji15) ≤ (wrap64 ((ji15) + (wrap64 (t130)))) then (if (wrap64 ((ji15) + (wrap64 (t130)))) ≤ (l0.length : Int) then ((slices_Clone_byte_byte.f ((l0.take ((wrap64 ((ji15) + (wrap64 (t130)))) : Int).toNat).drop ((ji15) : Int).toNat)).bind fun t135 => ((frame_sum.f t135).bind fun t138 => (if t132 = (IntKind.u64.wrap (t138)) then (some (t135, wrap64 ((ji15) + (wrap64 (t130))), 0)) else (some (([] : List Int), 0, 8))))) else (none)) else (none)) else (none)) = some (r1, r2, r3) := by first | (rw [hji15] at H; exact H) | (simp only [hji15] at H ⊢; exact H)
                  have hji15w : (IntKind.i64.wrap (a1 + 6)) = ji15 := (i64_w _).trans hji15
                  by_cases c16 : 0 ≤ (ji15)
                  · rw [if_pos c16] at H
                    have c16b0 := eq_true c16
                    have c16b1 : decide (0 ≤ (ji15)) = true := decide_eq_true c16
                    clear c16
                    by_cases c17 : (ji15) ≤ (wrap64 ((ji15) + (wrap64 (t130))))
                    · rw [if_pos c17] at H
                      have c17b0 := eq_true c17
                      have c17b1 : decide ((ji15) ≤ (wrap64 ((ji15) + (wrap64 (t130))))) = true := decide_eq_true c17
                      by_cases c18 : (wrap64 ((ji15) + (wrap64 (t130)))) ≤ (l0.length : Int)
                      · rw [if_pos c18] at H
                        have c18b0 := eq_true c18
                        have c18b1 : decide ((wrap64 ((ji15) + (wrap64 (t130)))) ≤ (l0.length : Int)) = true := decide_eq_true c18
                        replace H := Option.bind_eq_some_iff.mp H
                        obtain ⟨t135, A190, H⟩ := H
                        replace H : ((frame_sum.f t135).bind fun t138 => (if t132 = (IntKind.u64.wrap (t138)) then (some (t135, wrap64 ((ji15) + (wrap64 (t130))), 0)) else (some (([] : List Int), 0, 8)))) = some (r1, r2, r3) := H
                        have A19 := Aside0.mk A190
                        clear A190
                        replace H := Option.bind_eq_some_iff.mp H
                        obtain ⟨t138, A200, H⟩ := H
                        replace H : (if t132 = (IntKind.u64.wrap (t138)) then (some (t135, wrap64 ((ji15) + (wrap64 (t130))), 0)) else (some (([] : List Int), 0, 8))) = some (r1, r2, r3) := H
                        have A20 := Aside0.mk A200
                        clear A200
                        by_cases c21 : t132 = (IntKind.u64.wrap (t138))
                        · rw [if_pos c21] at H
                          have c21b0 : (t132 == (IntKind.u64.wrap (t138))) = true := beq_iff_eq.mpr c21
                          have c21b1 : (t132 != (IntKind.u64.wrap (t138))) = false := bne_eq_false_iff_eq.mpr c21
                          clear c21
                          simp only [Option.some.injEq, Prod.mk.injEq] at H
                          obtain ⟨rfl, rfl, rfl⟩ := H
                          obtain ⟨i022, hi022, _, hsz22, _⟩ := info_parts info5
                          obtain ⟨A22, hcut22, hA22, hC22⟩ := print_mid_of (P := Try.prog) (Value.int .u8) 0 25 5 .i64 .i64 Try.underlying25 hi022 hsz22 A0 c0 l0 (ji15) (wrap64 ((ji15) + (wrap64 (t130)))) (of_decide_eq_true (by first | (with_reducible assumption) | assumption)) (by first | omega | exact of_decide_eq_true (by first | (with_reducible assumption) | assumption)) (of_decide_eq_true (by first | (with_reducible assumption) | assumption)) HC0.out
                          have HR134 := Aside0.mk (Kd.C_of_reads (h1 := fun _ => rfl) (hA22 _ (Kd.reads_of_C HR0.out)))
                          have HC134 := Aside0.mk hC22
                          clear hA22 hC22 hi022 hsz22
                          go_wp2_with (first | ((with_reducible refine gate_callee (f := 44) rfl ?_); refine goesL_ (some 61) rfl rfl Try.func44 (by kernel_rfl) rfl #[.slice A22 ((l0.take ((wrap64 ((ji15) + (wrap64 (t130)))) : Int).toNat).drop ((ji15) : Int).toNat).length (c0 - (ji15).toNat)] rfl (by (try simp only [List.map_toArray, List.map_cons, List.map_nil]); first | done | (rw [show ((l0.take ((wrap64 ((ji15) + (wrap64 (t130)))) : Int).toNat).drop ((ji15) : Int).toNat).length = ((wrap64 ((ji15) + (wrap64 (t130)))).toNat - (ji15).toNat) from (by rw [List.length_drop, List.length_take]; have h_ : ((wrap64 ((ji15) + (wrap64 (t130)))) : Int) ≤ (l0.length : Int) := of_decide_eq_true (by first | (with_reducible assumption) | assumption); omega)] <;> rfl) | (simp only [hji15]; rfl) | rfl | (simp only [List.length_drop, List.length_take]; rfl)) ?_; (with_reducible refine (slices_Clone_byte_byte.calls _ _ ((l0.take ((wrap64 ((ji15) + (wrap64 (t130)))) : Int).toNat).drop ((ji15) : Int).toNat) t135 _ ?side1 ?side2 A19.out).mono ?_); (case side1 => repeat (first | exact (Kd.C_below HR134.out HB.out) | (with_reducible refine Kd.C_alloc ?_ _) | (with_reducible refine Kd.C_drewN ?_ _) | (with_reducible refine Kd.C_drew ?_))); (case side2 => exact HC134.out); rintro e w23 ⟨v136, rfl, ho0, hb⟩; refine ⟨_, rfl, ?_⟩; have n0_ := Aside0.mk (Kd.R_lower ho0 (below_size (by repeat (first | (with_reducible first | exact HB.out | apply below_alloc | apply pw_below_drewN | apply below_drew1) | exact HB.out)))); have n1_ := Aside0.mk (below_step (by repeat (first | (with_reducible first | exact HB.out | apply below_alloc | apply pw_below_drewN | apply below_drew1) | exact HB.out)) hb); clear HB; have HO137 := n0_; have HB := n1_; clear n0_ n1_; (try clear hb); (try clear hb2); (try clear hk); (try clear hi); (try clear ho0); obtain ⟨Ao24, co24, eo24⟩ := Kd.R_slice HO137.out; subst eo24) | ((with_reducible refine gate_callee (f := 40) rfl ?_); refine goesL_ (some 64) rfl rfl Try.func40 (by kernel_rfl) rfl #[.slice Ao24 t135.length co24] rfl (by (try simp only [List.map_toArray, List.map_cons, List.map_nil]); first | done | rfl | (simp only [List.length_drop, List.length_take]; rfl) | (rw [Go.Proofs.Ytdpodjgggicaoaa.H.u64_id _ (by simp only [decide_eq_false_iff_not, decide_eq_true_eq, Nat.not_lt, Int.not_lt] at *; omega) (by simp only [decide_eq_false_iff_not, decide_eq_true_eq, Nat.not_lt, Int.not_lt] at *; omega)]; rfl)) ?_; (with_reducible refine (frame_sum.calls _ _ t135 t138 _ ?side1 ?side2 A20.out).mono ?_); (case side1 => repeat (first | exact (Kd.R_reads' HO137.out).2.2 | (with_reducible refine Kd.C_alloc ?_ _) | (with_reducible refine Kd.C_drewN ?_ _) | (with_reducible refine Kd.C_drew ?_))); (case side2 => exact (Kd.R_reads' HO137.out).2.1); rintro e w25 ⟨rfl, hb⟩; refine ⟨_, rfl, ?_⟩; have n0_ := Aside0.mk (Kd.R_below (by (with_reducible repeat (first | apply Kd.R_alloc | apply Kd.R_drewN | apply Kd.R_drew)); exact HO137.out) hb); have n1_ := Aside0.mk (below_step (by repeat (first | (with_reducible first | exact HB.out | apply below_alloc | apply pw_below_drewN | apply below_drew1) | exact HB.out)) hb); clear HO137; clear HB; have HO137 := n0_; have HB := n1_; clear n0_ n1_; (try clear hb); (try clear hb2); (try clear hk); (try clear hi)))
                          go_ret3
                          exact ⟨_, by first | rfl | (simp [errW_none, errW_some] <;> rfl) | (simp only [← hji15]; first | rfl | (simp [errW_none, errW_some] <;> rfl)) | (simp [*, errW_none, errW_some] <;> rfl), by (with_reducible repeat (first | apply Kd.R_alloc | apply Kd.R_drewN | apply Kd.R_drew)); exact HO137.out, by repeat (first | (with_reducible first | exact HB.out | apply below_alloc | apply pw_below_drewN | apply below_drew1) | exact HB.out)⟩
                        · rw [if_neg c21] at H
                          have c21b0 : (t132 == (IntKind.u64.wrap (t138))) = false := beq_eq_false_iff_ne.mpr c21
                          have c21b1 : (t132 != (IntKind.u64.wrap (t138))) = true := bne_iff_ne.mpr c21
                          simp only [Option.some.injEq, Prod.mk.injEq] at H
                          obtain ⟨rfl, rfl, rfl⟩ := H
                          obtain ⟨i026, hi026, _, hsz26, _⟩ := info_parts info5
                          obtain ⟨A26, hcut26, hA26, hC26⟩ := print_mid_of (P := Try.prog) (Value.int .u8) 0 25 5 .i64 .i64 Try.underlying25 hi026 hsz26 A0 c0 l0 (ji15) (wrap64 ((ji15) + (wrap64 (t130)))) (of_decide_eq_true (by first | (with_reducible assumption) | assumption)) (by first | omega | exact of_decide_eq_true (by first | (with_reducible assumption) | assumption)) (of_decide_eq_true (by first | (with_reducible assumption) | assumption)) HC0.out
                          have HR134 := Aside0.mk (Kd.C_of_reads (h1 := fun _ => rfl) (hA26 _ (Kd.reads_of_C HR0.out)))
                          have HC134 := Aside0.mk hC26
                          clear hA26 hC26 hi026 hsz26
                          go_wp2_with (first | ((with_reducible refine gate_callee (f := 44) rfl ?_); refine goesL_ (some 61) rfl rfl Try.func44 (by kernel_rfl) rfl #[.slice A26 ((l0.take ((wrap64 ((ji15) + (wrap64 (t130)))) : Int).toNat).drop ((ji15) : Int).toNat).length (c0 - (ji15).toNat)] rfl (by (try simp only [List.map_toArray, List.map_cons, List.map_nil]); first | done | (rw [show ((l0.take ((wrap64 ((ji15) + (wrap64 (t130)))) : Int).toNat).drop ((ji15) : Int).toNat).length = ((wrap64 ((ji15) + (wrap64 (t130)))).toNat - (ji15).toNat) from (by rw [List.length_drop, List.length_take]; have h_ : ((wrap64 ((ji15) + (wrap64 (t130)))) : Int) ≤ (l0.length : Int) := of_decide_eq_true (by first | (with_reducible assumption) | assumption); omega)] <;> rfl) | (simp only [hji15]; rfl) | rfl | (simp only [List.length_drop, List.length_take]; rfl)) ?_; (with_reducible refine (slices_Clone_byte_byte.calls _ _ ((l0.take ((wrap64 ((ji15) + (wrap64 (t130)))) : Int).toNat).drop ((ji15) : Int).toNat) t135 _ ?side1 ?side2 A19.out).mono ?_); (case side1 => repeat (first | exact (Kd.C_below HR134.out HB.out) | (with_reducible refine Kd.C_alloc ?_ _) | (with_reducible refine Kd.C_drewN ?_ _) | (with_reducible refine Kd.C_drew ?_))); (case side2 => exact HC134.out); rintro e w27 ⟨v136, rfl, ho0, hb⟩; refine ⟨_, rfl, ?_⟩; have n0_ := Aside0.mk (Kd.R_lower ho0 (below_size (by repeat (first | (with_reducible first | exact HB.out | apply below_alloc | apply pw_below_drewN | apply below_drew1) | exact HB.out)))); have n1_ := Aside0.mk (below_step (by repeat (first | (with_reducible first | exact HB.out | apply below_alloc | apply pw_below_drewN | apply below_drew1) | exact HB.out)) hb); clear HB; have HO137 := n0_; have HB := n1_; clear n0_ n1_; (try clear hb); (try clear hb2); (try clear hk); (try clear hi); (try clear ho0); obtain ⟨Ao28, co28, eo28⟩ := Kd.R_slice HO137.out; subst eo28) | ((with_reducible refine gate_callee (f := 40) rfl ?_); refine goesL_ (some 64) rfl rfl Try.func40 (by kernel_rfl) rfl #[.slice Ao28 t135.length co28] rfl (by (try simp only [List.map_toArray, List.map_cons, List.map_nil]); first | done | rfl | (simp only [List.length_drop, List.length_take]; rfl) | (rw [Go.Proofs.Ytdpodjgggicaoaa.H.u64_id _ (by simp only [decide_eq_false_iff_not, decide_eq_true_eq, Nat.not_lt, Int.not_lt] at *; omega) (by simp only [decide_eq_false_iff_not, decide_eq_true_eq, Nat.not_lt, Int.not_lt] at *; omega)]; rfl)) ?_; (with_reducible refine (frame_sum.calls _ _ t135 t138 _ ?side1 ?side2 A20.out).mono ?_); (case side1 => repeat (first | exact (Kd.R_reads' HO137.out).2.2 | (with_reducible refine Kd.C_alloc ?_ _) | (with_reducible refine Kd.C_drewN ?_ _) | (with_reducible refine Kd.C_drew ?_))); (case side2 => exact (Kd.R_reads' HO137.out).2.1); rintro e w29 ⟨rfl, hb⟩; refine ⟨_, rfl, ?_⟩; have n0_ := Aside0.mk (Kd.R_below (by (with_reducible repeat (first | apply Kd.R_alloc | apply Kd.R_drewN | apply Kd.R_drew)); exact HO137.out) hb); have n1_ := Aside0.mk (below_step (by repeat (first | (with_reducible first | exact HB.out | apply below_alloc | apply pw_below_drewN | apply below_drew1) | exact HB.out)) hb); clear HO137; clear HB; have HO137 := n0_; have HB := n1_; clear n0_ n1_; (try clear hb); (try clear hb2); (try clear hk); (try clear hi)))
                          go_ret3
                          exact ⟨_, by first | rfl | (simp [errW_none, errW_some] <;> rfl) | (simp only [← hji15]; first | rfl | (simp [errW_none, errW_some] <;> rfl)) | (simp [*, errW_none, errW_some] <;> rfl), by first | exact Kd.R_nil _ _ _ _ _ | exact Kd.N_nil _ _ _ _ _ | exact Kd.V_nil _ _ _ _ _ | exact Kd.Q_nil _ _ _ _ _ | exact Kd.S_nil _ _ _ _ _, by repeat (first | (with_reducible first | exact HB.out | apply below_alloc | apply pw_below_drewN | apply below_drew1) | exact HB.out)⟩
                      · rw [if_neg c18] at H
                        exact absurd H (by simp)
                    · rw [if_neg c17] at H
                      exact absurd H (by simp)
                  · rw [if_neg c16] at H
                    exact absurd H (by simp)
        · replace c8 := Bool.eq_false_iff.mpr c8
          subst c8
          have H1 : (some (([] : List Int), 0, 2)) = some (r1, r2, r3) := by rw [if_neg (show ¬ (false = true) by decide)] at H; exact H
          clear H
          have H := H1
          clear H1
          simp only [Option.some.injEq, Prod.mk.injEq] at H
          obtain ⟨rfl, rfl, rfl⟩ := H
          go_wp2_with (first | ((with_reducible refine gate_callee (f := 43) rfl ?_); refine goesL_ (some 22) rfl rfl Try.func43 (by kernel_rfl) rfl #[.slice A0 l0.length c0, .int .i64 a1, .int .i64 2] rfl (by (try simp only [List.map_toArray, List.map_cons, List.map_nil]); first | done | rfl | (simp only [List.length_drop, List.length_take]; rfl) | (rw [Go.Proofs.Ytdpodjgggicaoaa.H.u64_id _ (by simp only [decide_eq_false_iff_not, decide_eq_true_eq, Nat.not_lt, Int.not_lt] at *; omega) (by simp only [decide_eq_false_iff_not, decide_eq_true_eq, Nat.not_lt, Int.not_lt] at *; omega)]; rfl)) ?_; (with_reducible refine (pack_Get.calls kj2 _ _ l0 a1 2 t130 t131 _ ?side1 ?side2 A6.out).mono ?_); (case side1 => repeat (first | exact (Kd.C_below HR0.out HB.out) | (with_reducible refine Kd.C_alloc ?_ _) | (with_reducible refine Kd.C_drewN ?_ _) | (with_reducible refine Kd.C_drew ?_))); (case side2 => exact HC0.out); rintro e w30 ⟨rfl, hb⟩; refine ⟨_, rfl, ?_⟩; have n0_ := Aside0.mk (below_step (by repeat (first | (with_reducible first | exact HB.out | apply below_alloc | apply pw_below_drewN | apply below_drew1) | exact HB.out)) hb); clear HB; have HB := n0_; clear n0_; (try clear hb); (try clear hb2); (try clear hk); (try clear hi)) | ((with_reducible refine gate_callee (f := 43) rfl ?_); refine goesL_ (some 29) rfl rfl Try.func43 (by kernel_rfl) rfl #[.slice A0 l0.length c0, .int .i64 (wrap64 (a1 + 2)), .int .i64 4] rfl (by (try simp only [List.map_toArray, List.map_cons, List.map_nil]); first | done | rfl | (simp only [List.length_drop, List.length_take]; rfl) | (rw [Go.Proofs.Ytdpodjgggicaoaa.H.u64_id _ (by simp only [decide_eq_false_iff_not, decide_eq_true_eq, Nat.not_lt, Int.not_lt] at *; omega) (by simp only [decide_eq_false_iff_not, decide_eq_true_eq, Nat.not_lt, Int.not_lt] at *; omega)]; rfl)) ?_; (with_reducible refine (pack_Get.calls kj2 _ _ l0 (wrap64 (a1 + 2)) 4 t132 false _ ?side1 ?side2 A7.out).mono ?_); (case side1 => repeat (first | exact (Kd.C_below HR0.out HB.out) | (with_reducible refine Kd.C_alloc ?_ _) | (with_reducible refine Kd.C_drewN ?_ _) | (with_reducible refine Kd.C_drew ?_))); (case side2 => exact HC0.out); rintro e w31 ⟨rfl, hb⟩; refine ⟨_, rfl, ?_⟩; have n0_ := Aside0.mk (below_step (by repeat (first | (with_reducible first | exact HB.out | apply below_alloc | apply pw_below_drewN | apply below_drew1) | exact HB.out)) hb); clear HB; have HB := n0_; clear n0_; (try clear hb); (try clear hb2); (try clear hk); (try clear hi)))
          go_ret3
          exact ⟨_, by first | rfl | (simp [errW_none, errW_some] <;> rfl) | (simp [*, errW_none, errW_some] <;> rfl), by first | exact Kd.R_nil _ _ _ _ _ | exact Kd.N_nil _ _ _ _ _ | exact Kd.V_nil _ _ _ _ _ | exact Kd.Q_nil _ _ _ _ _ | exact Kd.S_nil _ _ _ _ _, by repeat (first | (with_reducible first | exact HB.out | apply below_alloc | apply pw_below_drewN | apply below_drew1) | exact HB.out)⟩
-- NOT PRINTED: function 46 (frame_frames)
def frame_All_go (k : Nat) (l0 : List Int) : Nat → Int → Option (List (List Int × Int) × Bool)
  | 0, _ => some ([], false)
  | c + 1, at_ => (frame_Get.f k l0 at_).bind fun g => if g.2.2 = 0 then (frame_All_go k l0 c g.2.1).bind fun r => some ((g.1, g.2.1) :: r.1, r.2) else some ([], true)
def frame_All_last : Int → List (List Int × Int) → Int
  | a, [] => a
  | _, x :: r => frame_All_last x.2 r
def frame_All.f (k : Nat) (l0 : List Int) (a1 a2 : Int) : Option (List (List Int) × Int) :=
  if a2 < 1 then some ([], a1) else (frame_All_go k l0 a2.toNat a1).bind fun r => if r.1.length ≤ 1000000 then some (r.1.map (·.1), frame_All_last a1 r.1) else none
theorem frame_All_go_mono (k : Nat) (l0 : List Int) : ∀ c at_, LeO (frame_All_go k l0 c at_) (frame_All_go (k + 1) l0 c at_) := by
  intro c
  induction c with
  | zero => intro at_; exact LeO.refl _
  | succ c ih => intro at_; exact LeO.bind (frame_Get.mono _ _ _) (fun _ => LeO.ite (LeO.bind (ih _) (fun _ => LeO.refl _)) (LeO.refl _))
theorem frame_All.mono : ∀ a0 a1 a2 k, LeO (frame_All.f k a0 a1 a2) (frame_All.f (k + 1) a0 a1 a2) := by
  intro a0 a1 a2 k
  exact LeO.ite (LeO.refl _) (LeO.bind (frame_All_go_mono k _ _ _) (fun _ => LeO.refl _))
def frame_All_ch (k : Nat) (l0 : List Int) : Int → List (List Int × Int) → Bool → Prop
  | at_, [], fl => fl = true → ∃ g, frame_Get.f k l0 at_ = some g ∧ g.2.2 ≠ 0
  | at_, x :: r, fl => frame_Get.f k l0 at_ = some (x.1, x.2, 0) ∧ frame_All_ch k l0 x.2 r fl
theorem frame_All_go_ch (k : Nat) (l0 : List Int) : ∀ (c : Nat) (at_ : Int) (xs : List (List Int × Int)) (fl : Bool), frame_All_go k l0 c at_ = some (xs, fl) → frame_All_ch k l0 at_ xs fl ∧ (fl = true → xs.length < c) ∧ (fl = false → xs.length = c) := by
  intro c
  induction c with
  | zero =>
    intro at_ xs fl h
    rw [frame_All_go] at h
    injection h with h
    injection h with h1 h2
    subst h1 h2
    exact ⟨fun h => absurd h (by decide), fun h => absurd h (by decide), fun _ => rfl⟩
  | succ c ih =>
    intro at_ xs fl h
    rw [frame_All_go] at h
    obtain ⟨⟨b, nx, e⟩, hg, h2⟩ := Option.bind_eq_some_iff.mp h
    have h2 : (if e = 0 then (frame_All_go k l0 c nx).bind fun r => some ((b, nx) :: r.1, r.2) else some ([], true)) = some (xs, fl) := h2
    by_cases he : e = 0
    · rw [if_pos he] at h2
      obtain ⟨⟨ys, fl2⟩, hy, h3⟩ := Option.bind_eq_some_iff.mp h2
      injection h3 with h3
      injection h3 with h4 h5
      subst h4 h5 he
      obtain ⟨i1, i2, i3⟩ := ih _ _ _ hy
      exact ⟨⟨hg, i1⟩, fun h => by have := i2 h; simp only [List.length_cons]; omega, fun h => by have := i3 h; simp only [List.length_cons]; omega⟩
    · rw [if_neg he] at h2
      injection h2 with h3
      injection h3 with h4 h5
      subst h4 h5
      exact ⟨fun _ => ⟨_, hg, he⟩, fun _ => Nat.succ_pos c, fun h => absurd h (by decide)⟩
theorem frame_All_last_snoc : ∀ (a : Int) (xs : List (List Int × Int)) (x : List Int × Int), frame_All_last a (xs ++ [x]) = x.2 := by
  intro a xs
  induction xs generalizing a with
  | nil => intro x; rfl
  | cons y r ih => intro x; exact ih _ x
theorem frame_All_ch_drop (k : Nat) (l0 : List Int) (fl : Bool) : ∀ (j : Nat) (at_ : Int) (xs : List (List Int × Int)), frame_All_ch k l0 at_ xs fl → frame_All_ch k l0 (frame_All_last at_ (xs.take j)) (xs.drop j) fl := by
  intro j
  induction j with
  | zero => intro at_ xs h; exact h
  | succ j ih =>
    intro at_ xs h
    cases xs with
    | nil => exact h
    | cons x r => exact ih _ _ h.2
structure frame_All_In (s : Nat) (most : Int) (w0 W : World) (v : Value) (rows : List (List Int)) (nx : Int) : Prop where
  b5 : Boxed W s 3 (.int .i64 most)
  b6 : Boxed W (s + 1) 42 v
  b7 : Boxed W (s + 2) 3 (.int .i64 nx)
  row : Kd.R (Kd.slice 5 (Kd.int .u8)) 25 W (s + 7) (fun _ => True) v rows
  below : Below s w0 W
  size : s + 5 ≤ W.heap.size
theorem frame_All_In_step {s : Nat} {most : Int} {w0 A B : World} {v : Value} {rows : List (List Int)} {nx : Int} (h : frame_All_In s most w0 A v rows nx) {r : Nat} (hg : A.grownBy B (some r)) (h1 : s + 3 ≤ r) (h2 : r < s + 7) : frame_All_In s most w0 B v rows nx := by
  have hs := h.size
  refine ⟨(hg.block s (by omega) (fun e => by injection e with e; omega)).trans h.b5, (hg.block (s + 1) (by omega) (fun e => by injection e with e; omega)).trans h.b6, (hg.block (s + 2) (by omega) (fun e => by injection e with e; omega)).trans h.b7, ?_, ?_, Nat.le_trans hs hg.size⟩
  · exact Kd.R_mono (Kd.R_move (Kd.R_bound h.row) (fun k_ hk => hg.block k_ hk.2.2.1 (fun e => by injection e with e; have := hk.2.1; omega))) (fun _ hk => hk.1)
  · exact h.below.grown hg (by omega) (fun k_ e => by injection e with e; omega)
theorem frame_All_In_below {s : Nat} {most : Int} {w0 A B : World} {v : Value} {rows : List (List Int)} {nx : Int} (h : frame_All_In s most w0 A v rows nx) (hb : Below A.heap.size A B) : frame_All_In s most w0 B v rows nx := by
  have hs := h.size
  exact ⟨(hb.block s (by omega)).trans h.b5, (hb.block (s + 1) (by omega)).trans h.b6, (hb.block (s + 2) (by omega)).trans h.b7, Kd.R_below h.row hb, h.below.trans (hb.mono (by omega)), Nat.le_trans hs hb.size⟩
attribute [local go_sem] Oper.semAt_some
set_option maxHeartbeats 8000000 in
set_option maxRecDepth 100000 in
theorem frame_All_frames (n : Nat) (A0 : Option Addr) (m c0 : Nat) (a1 : Int) (w : World) : CallsIn Fence.wide n Try.prog 46 #[.slice A0 m c0, .int .i64 a1] w fun e w' =>
    e = .returned (.func (.func 62) #[] #[.pointer (some ⟨w.heap.size, 0, none⟩), .pointer (some ⟨w.heap.size + 1, 0, none⟩)]) ∧ w' = (w.alloc (.cells #[.slice A0 m c0] 25)).alloc (.cells #[.int .i64 a1] 3) := by
  refine callsIn_of_wp Try.func46 rfl trivial ?_ rfl
  simp only [Try.ntmps46, List.size_toArray, List.length_cons, List.length_nil, Nat.reduceAdd, Nat.reduceSub, Array.replicate_succ, Array.replicate_zero, List.push_toArray, List.append_toArray, List.nil_append, List.cons_append]
  gi_wp2
  go_ret
  exact ⟨rfl, rfl⟩
set_option maxHeartbeats 8000000 in
set_option maxRecDepth 100000 in
theorem frame_All_iter (k n : Nat) (s : Nat) (A0 : Option Addr) (c0 : Nat) (l0 : List Int) (a1 : Int) (xs : List (List Int × Int)) (fl : Bool) (w0 w : World) (hs : w0.heap.size = s) (hr0 : Kd.C (Kd.int .u8) w0 A0 l0.length l0) (hc0 : l0.length ≤ c0)
    (hch : frame_All_ch k l0 a1 xs fl) (hsz : w.heap.size = s + 5) (hB : Below s w0 w) (h3 : Boxed w (s + 3) 25 (.slice A0 l0.length c0)) (h4 : Boxed w (s + 4) 3 (.int .i64 a1)) :
    Go.Proofs.Ytdpodjgggicaoaa.H.StStops Fence.wide n Try.prog 62 #[.pointer (some ⟨s + 3, 0, none⟩), .pointer (some ⟨s + 4, 0, none⟩)] (fun x : Value × Int => #[x.1, .int .i64 x.2]) (s + 4)
      (fun A B => Below s A B ∧ B.heap[s + 3]? = A.heap[s + 3]? ∧ B.heap[s + 4]? = A.heap[s + 4]? ∧ A.heap.size ≤ B.heap.size)
      (fun j x W => ∃ y, xs[j]? = some y ∧ x.2 = y.2 ∧ Kd.R (Kd.int .u8) 5 W (s + 7) (fun _ => True) x.1 y.1) (fun j => j < xs.length ∨ fl = true) (fun j => j = xs.length ∧ fl = true) w := by
  intro l J Jx hJ hJx hGd hY W hW hWs h0
  refine callsIn_of_wp Try.func62 rfl trivial ?_ rfl
  simp only [Try.ntmps62, List.size_toArray, List.length_cons, List.length_nil, Nat.reduceAdd, Nat.reduceSub, Array.replicate_succ, Array.replicate_zero, List.push_toArray, List.append_toArray, List.nil_append, List.cons_append]
  gi_wp2
  gi_loopg [] xs.length (fun d wr => ∃ (j : Nat), j + d = xs.length ∧ J j wr ∧ Below s w0 wr ∧ Boxed wr (s + 3) 25 (.slice A0 l0.length c0) ∧ Boxed wr (s + 4) 3 (.int .i64 (frame_All_last a1 (xs.take j))) ∧ s + 7 ≤ wr.heap.size)
  case atStart =>
    refine ⟨0, by omega, h0, hB.trans hW.1, ?_, ?_, by omega⟩
    · exact hW.2.1.trans h3
    · exact hW.2.2.1.trans h4
  case round =>
    obtain ⟨j, hj, hJj, hBj, hb3, hb4, hsz7⟩ := hrel
    have hd := frame_All_ch_drop k l0 fl j a1 xs hch
    generalize hat : frame_All_last a1 (xs.take j) = at_ at hd hb4
    have q3 := hb3.cell
    have q4 := hb4.cell
    cases hrest : xs.drop j with
    | nil =>
      rw [hrest] at hd
      have hjn : j = xs.length := by have h_ := congrArg List.length hrest; rw [List.length_drop, List.length_nil] at h_; omega
      have hfl : fl = true := by
        rcases hGd j wr hJj with h | h
        · omega
        · exact h
      obtain ⟨⟨b, nx, e⟩, hg, he⟩ := hd hfl
      have GC := frame_Get.calls k A0 c0 l0 at_ b nx e wr (Kd.C_below hr0 (hs ▸ hBj)) hc0 hg
      have ceb : (e != 0) = true := bne_iff_ne.mpr he
      gi_wp2_with (refine ⟨trivial, fun h_ => by simp [Fence.wide] at h_, ?_⟩; gi_at_call 22; refine (callsIn_wide.2 GC).mono ?_; clear GC; rintro e' w1 ⟨v, rfl, hv, hb⟩; obtain ⟨Ab, cb, rfl⟩ := Kd.R_slice hv)
      refine ⟨fun _ h_ => (by cases h_), ?_⟩
      gi_wp2
      refine bodyPost_ret (results_none rfl _ _ _) rfl ?_
      exact ⟨⟨_, rfl⟩, .inl ⟨j, ⟨hjn, hfl⟩, hJ j _ _ hJj ⟨hb.os, hb.tape, hb.output, hb.size, fun k_ hk _ => hb.block k_ hk⟩⟩⟩
    | cons y r =>
      rw [hrest] at hd
      obtain ⟨hg, hd2⟩ := hd
      have hjl : j < xs.length := by have h_ := congrArg List.length hrest; rw [List.length_drop, List.length_cons] at h_; omega
      have hyj : xs[j]? = some y := by
        have h_ := List.drop_eq_getElem_cons hjl
        rw [hrest] at h_
        injection h_ with h1 _
        rw [List.getElem?_eq_getElem hjl, h1]
      have GC := frame_Get.calls k A0 c0 l0 at_ y.1 y.2 0 wr (Kd.C_below hr0 (hs ▸ hBj)) hc0 hg
      gi_wp2_with (refine ⟨trivial, fun h_ => by simp [Fence.wide] at h_, ?_⟩; gi_at_call 22; refine (callsIn_wide.2 GC).mono ?_; clear GC; rintro e' w1 ⟨v, rfl, hv, hb⟩; have hv7 := Kd.R_lower hv hsz7; obtain ⟨Ab, cb, rfl⟩ := Kd.R_slice hv; obtain ⟨fn, tmps, assign, body, hy, hR⟩ := hY j (.slice Ab y.1.length cb, y.2) w1 (hJ j _ _ hJj ⟨hb.os, hb.tape, hb.output, hb.size, fun k_ hk _ => hb.block k_ hk⟩) ⟨y, hyj, rfl, hv7⟩; dsimp only at hy)
      refine ⟨fun h_ => by simp [Fence.wide] at h_, hR.mono ?_⟩
      rintro e W3 (⟨rfl, hJ3, hk3⟩ | ⟨rfl, hJx3⟩)
      · have hb5 : Boxed W3 (s + 4) 3 (.int .i64 at_) := hk3.2.2.1.trans ((hb.block (s + 4) (by omega)).trans hb4)
        have hb6 : Boxed W3 (s + 3) 25 (.slice A0 l0.length c0) := hk3.2.1.trans ((hb.block (s + 3) (by omega)).trans hb3)
        have q5 := hb5.cell
        have q6 := hb5.frozen
        have hBw1 : Below s wr w1 := hb.mono (by omega)
        have hsz1 := hb.size
        gi_wp2
        gi_roundg (xs.length - (j + 1))
        case measure => omega
        case rel =>
          refine ⟨j + 1, by omega, hJ _ _ _ hJ3 (grownBy_setCell' W3 (s + 4) _), ((hBj.trans hBw1).trans hk3.1).setCell (p := ⟨s + 4, 0, none⟩) (by simp) _, ?_, ?_, ?_⟩
          · exact (Below.heap_setCell W3 ⟨s + 4, 0, none⟩ _ (s + 3) (by simp)).trans hb6
          · rw [List.take_add_one, hyj, Option.toList_some, frame_All_last_snoc]
            exact hb5.set _
          · have h_ := hk3.2.2.2
            simp only [World.setCell, Array.size_modify]
            omega
      · gi_wp2
        refine bodyPost_ret (results_none rfl _ _ _) rfl ?_
        exact ⟨⟨_, rfl⟩, .inr ⟨j + 1, hJx3⟩⟩
theorem frame_All_round {s : Nat} {most : Int} {w0 W : World} {v : Value} {rows : List (List Int)} {nx : Int} (h : frame_All_In s most w0 W v rows nx) (hs7 : s + 7 ≤ W.heap.size) {y : List Int} {u : Value} (hR : Kd.R (Kd.int .u8) 5 W (s + 7) (fun _ => True) u y) {inner : List Value}
    (hown : W.ownsRow (s + 7) 25 1 v rows.length inner) (hr : Reps ((Kd.slice 5 (Kd.int .u8)).M W (s + 7) (fun k => True ∧ some k ≠ v.ownBlock)) 1 rows inner) {tmp : Obj} {v' : Value} {w1 : World}
    (hown' : w1.ownsRow (s + 7) 25 1 v' (rows.length + 1) (inner ++ [u])) (hgrow : (W.alloc tmp).grownBy w1 v.ownBlock) (hat : v'.ownBlock = v.ownBlock ∨ v'.ownBlock = some (W.alloc tmp).heap.size) (nx' : Int) :
    (Boxed w1 (s + 1) 42 v ∧ Boxed (w1.setCell ⟨s + 1, 0, none⟩ v') (s + 2) 3 (.int .i64 nx)) ∧ frame_All_In s most w0 ((w1.setCell ⟨s + 1, 0, none⟩ v').setCell ⟨s + 2, 0, none⟩ (.int .i64 nx')) v' (rows ++ [y]) nx' ∧
    KeepsFrom (s + 5) W ((w1.setCell ⟨s + 1, 0, none⟩ v').setCell ⟨s + 2, 0, none⟩ (.int .i64 nx')) ∧
    (Below s W ((w1.setCell ⟨s + 1, 0, none⟩ v').setCell ⟨s + 2, 0, none⟩ (.int .i64 nx')) ∧ ((w1.setCell ⟨s + 1, 0, none⟩ v').setCell ⟨s + 2, 0, none⟩ (.int .i64 nx')).heap[s + 3]? = W.heap[s + 3]? ∧ ((w1.setCell ⟨s + 1, 0, none⟩ v').setCell ⟨s + 2, 0, none⟩ (.int .i64 nx')).heap[s + 4]? = W.heap[s + 4]? ∧ W.heap.size ≤ ((w1.setCell ⟨s + 1, 0, none⟩ v').setCell ⟨s + 2, 0, none⟩ (.int .i64 nx')).heap.size) := by
  have hg : W.grownBy w1 v.ownBlock := (World.grownBy_alloc W tmp _).trans hgrow
  have hvb : ∀ k_, v.ownBlock = some k_ → s + 7 ≤ k_ := fun k_ e => (hown.lt k_ e).1
  have hvb' : ∀ k_, v'.ownBlock = some k_ → s + 7 ≤ k_ := fun k_ e => (hown'.lt k_ e).1
  have old : ∀ k_, k_ < s + 7 → w1.heap[k_]? = W.heap[k_]? := fun k_ hk => hg.block k_ (by omega) (fun e => by have := hvb k_ e.symm; omega)
  have old2 : ∀ k_, k_ ≠ s + 1 → k_ ≠ s + 2 → ((w1.setCell ⟨s + 1, 0, none⟩ v').setCell ⟨s + 2, 0, none⟩ (.int .i64 nx')).heap[k_]? = w1.heap[k_]? := fun k_ h1 h2 =>
    (Below.heap_setCell _ ⟨s + 2, 0, none⟩ _ k_ h2).trans (Below.heap_setCell _ ⟨s + 1, 0, none⟩ _ k_ h1)
  have hM : (Kd.slice 5 (Kd.int .u8)).M W (s + 7) (fun k => some k ≠ v.ownBlock) y [u] := ⟨u, rfl, Kd.R_mono (Kd.R_bound hR) (fun k_ hk e => by
    obtain ⟨_, _, _, q, hq, cells, hcl⟩ := hk
    obtain ⟨cells2, hcl2⟩ := own_typed hown k_ e.symm
    rw [hcl] at hcl2
    injection hcl2 with hcl2
    injection hcl2 with _ hcl2
    rcases List.mem_cons.1 hq with rfl | hq
    · exact absurd hcl2 (by decide)
    · have h2 : q ∈ ([] : List Nat) := hq
      cases h2)⟩
  have hap := Kd.R_appended (d := Kd.slice 5 (Kd.int .u8)) (ok := fun _ => True) (fun _ _ => trivial) hr hM (fun _ hk => ⟨trivial, hk⟩) (fun _ _ => trivial) hown' hg (by
    rcases hat with h | h
    · exact .inl h
    · exact .inr ⟨_, h, by simp⟩)
  have hsz := hg.size
  have b6 : Boxed w1 (s + 1) 42 v := (old _ (by omega)).trans h.b6
  have b7 : Boxed w1 (s + 2) 3 (.int .i64 nx) := (old _ (by omega)).trans h.b7
  have b7' : Boxed (w1.setCell ⟨s + 1, 0, none⟩ v') (s + 2) 3 (.int .i64 nx) := (Below.heap_setCell _ ⟨s + 1, 0, none⟩ _ (s + 2) (by simp)).trans b7
  have hsz3 : ((w1.setCell ⟨s + 1, 0, none⟩ v').setCell ⟨s + 2, 0, none⟩ (.int .i64 nx')).heap.size = w1.heap.size := by simp [World.setCell]
  have hBs : Below s W w1 := (Below.refl s W).grown hg (by omega) (fun k_ e => by have := hvb k_ e; omega)
  have hB3 : Below s W ((w1.setCell ⟨s + 1, 0, none⟩ v').setCell ⟨s + 2, 0, none⟩ (.int .i64 nx')) := (hBs.setCell (p := ⟨s + 1, 0, none⟩) (by simp) _).setCell (p := ⟨s + 2, 0, none⟩) (by simp) _
  refine ⟨⟨b6, b7'⟩, ⟨?_, ?_, b7'.set _, ?_, h.below.trans hB3, by omega⟩, ?_, hB3, (old2 _ (by omega) (by omega)).trans (old _ (by omega)), (old2 _ (by omega) (by omega)).trans (old _ (by omega)), by omega⟩
  · exact (old2 s (by omega) (by omega)).trans ((old s (by omega)).trans h.b5)
  · exact (Below.heap_setCell _ ⟨s + 2, 0, none⟩ _ (s + 1) (by simp)).trans (b6.set v')
  · exact Kd.R_mono (Kd.R_move (Kd.R_bound hap) (fun k_ hk => old2 k_ (by have := hk.2.1; omega) (by have := hk.2.1; omega))) (fun _ hk => hk.1)
  · refine ⟨by omega, fun k_ o hk ho hc => ?_⟩
    rw [old2 k_ (by omega) (by omega)]
    refine (hg.block k_ (Array.getElem?_eq_some_iff.1 ho).1 (fun e => ?_)).trans ho
    obtain ⟨cells2, hcl2⟩ := own_typed hown k_ e.symm
    rw [ho] at hcl2
    injection hcl2 with hcl2
    rw [hcl2] at hc
    exact absurd hc (by simp [Obj.isCells])
theorem frame_All_fin {s : Nat} {W : World} {v x x' : Value} (b6 : Boxed W (s + 1) 42 v) (b7 : Boxed W (s + 2) 3 x') :
    Boxed ((W.setCell ⟨s + 1, 0, none⟩ v).setCell ⟨s + 2, 0, none⟩ x).drew (s + 1) 42 v ∧ Boxed ((W.setCell ⟨s + 1, 0, none⟩ v).setCell ⟨s + 2, 0, none⟩ x).drew (s + 2) 3 x ∧
    (∀ k_, k_ ≠ s + 1 → k_ ≠ s + 2 → ((W.setCell ⟨s + 1, 0, none⟩ v).setCell ⟨s + 2, 0, none⟩ x).drew.heap[k_]? = W.heap[k_]?) ∧ Below s W ((W.setCell ⟨s + 1, 0, none⟩ v).setCell ⟨s + 2, 0, none⟩ x).drew := by
  have b7' : Boxed (W.setCell ⟨s + 1, 0, none⟩ v) (s + 2) 3 x' := (Below.heap_setCell _ ⟨s + 1, 0, none⟩ _ (s + 2) (by simp)).trans b7
  refine ⟨(Below.heap_setCell _ ⟨s + 2, 0, none⟩ _ (s + 1) (by simp)).trans (b6.set v), b7'.set x, fun k_ h1 h2 => (Below.heap_setCell _ ⟨s + 2, 0, none⟩ _ k_ h2).trans (Below.heap_setCell _ ⟨s + 1, 0, none⟩ _ k_ h1), ?_⟩
  exact (((Below.refl s W).setCell (p := ⟨s + 1, 0, none⟩) (by simp) _).setCell (p := ⟨s + 2, 0, none⟩) (by simp) _).drew
theorem frame_All_res {tmps : Array Value} {W2 : World} {s : Nat} {v x : Value} (h6 : tmps.getD 6 undef = .pointer (some ⟨s + 1, 0, none⟩)) (h7 : tmps.getD 7 undef = .pointer (some ⟨s + 2, 0, none⟩)) (c6 : W2.cell? ⟨s + 1, 0, none⟩ = some v) (c7 : W2.cell? ⟨s + 2, 0, none⟩ = some x) : (results Try.f24 tmps).run Try.prog W2 = .ok (.tuple #[v, x]) W2 := by
  have e : Try.f24.results = #[.cell 6 42, .cell 7 3] := rfl
  have u1 := Try.underlying42
  have u2 := Try.underlying3
  have h6' : tmps[6]?.getD undef = .pointer (some ⟨s + 1, 0, none⟩) := by simpa using h6
  have h7' : tmps[7]?.getD undef = .pointer (some ⟨s + 2, 0, none⟩) := by simpa using h7
  simp [results, e, h6', h7', asAddr, loadVar, isAgg, u1, u2, c6, c7, go_sem]
set_option maxHeartbeats 8000000 in
set_option maxRecDepth 100000 in
theorem frame_All.calls (k : Nat) (A0 : Option Addr) (c0 : Nat) (l0 : List Int) (a1 a2 : Int) (r1 : List (List Int)) (r2 : Int) (w : World) (hr0 : Kd.C (Kd.int .u8) w A0 l0.length l0) (hc0 : l0.length ≤ c0) (h : frame_All.f k l0 a1 a2 = some (r1, r2)) :
    Calls Try.prog 24 #[.slice A0 l0.length c0, .int .i64 a1, .int .i64 a2] w fun e w' => ∃ v0_ : Value, e = .returned (.tuple #[v0_, .int .i64 r2]) ∧ Kd.R (Kd.slice 5 (Kd.int .u8)) 25 w' w.heap.size (fun _ => True) v0_ r1 ∧ Below w.heap.size w w' := by
  unfold frame_All.f at h
  by_cases c : a2 < 1
  · rw [if_pos c] at h
    injection h with h
    injection h with h1 h2
    subst h1 h2
    have cb : decide (a2 < 1) = true := decide_eq_true c
    go_enter Try.func24, Try.ntmps24
    go_wp2_with (fail)
    obtain ⟨W, hW⟩ : ∃ W, ((w.alloc (.cells #[.int .i64 a2] 3)).alloc (.cells #[.slice none 0 0] 42)).alloc (.cells #[.int .i64 a1] 3) = W := ⟨_, rfl⟩
    have hB : Below w.heap.size w W := by rw [← hW]; exact below_alloc (below_alloc (below_alloc (Below.refl _ w) _) _) _
    have b6 : Boxed W (w.heap.size + 1) 42 (.slice none 0 0) := by
      rw [← hW]
      have h_ := Boxed.new (w.alloc (.cells #[.int .i64 a2] 3)) 42 (.slice none 0 0)
      rw [World.size_alloc] at h_
      exact h_.alloc _
    have b7 : Boxed W (w.heap.size + 2) 3 (.int .i64 a1) := by
      rw [← hW]
      have h_ := Boxed.new ((w.alloc (.cells #[.int .i64 a2] 3)).alloc (.cells #[.slice none 0 0] 42)) 3 (.int .i64 a1)
      rw [World.size_alloc, World.size_alloc] at h_
      exact h_
    rw [hW]
    clear hW
    simp only [Nat.add_assoc, Nat.reduceAdd]
    obtain ⟨s, hs⟩ : ∃ s, w.heap.size = s := ⟨_, rfl⟩
    rw [hs] at hB b6 b7 ⊢
    have g6 := b6.cell
    have g7 := b7.cell
    have k6 := b6.frozen
    have k7 := b7.frozen
    have m7 : ∀ u, (W.setCell ⟨s + 1, 0, none⟩ u).cell? ⟨s + 2, 0, none⟩ = W.cell? ⟨s + 2, 0, none⟩ := fun u => World.cell?_of_block (Below.heap_setCell W ⟨s + 1, 0, none⟩ u (s + 2) (by simp))
    have n7 : ∀ u, (W.setCell ⟨s + 1, 0, none⟩ u).frozen? ⟨s + 2, 0, none⟩ = W.frozen? ⟨s + 2, 0, none⟩ := fun u => World.frozen?_of_block (Below.heap_setCell W ⟨s + 1, 0, none⟩ u (s + 2) (by simp))
    go_region
    obtain ⟨f6, f7, fo, fb⟩ := frame_All_fin (x := .int .i64 a1) b6 b7
    generalize ((W.setCell ⟨s + 1, 0, none⟩ (.slice none 0 0)).setCell ⟨s + 2, 0, none⟩ (.int .i64 a1)).drew = W2 at f6 f7 fo fb ⊢
    have c6 := f6.cell
    have c7 := f7.cell
    go_wp2_with (fail)
    refine bodyPost_ret (frame_All_res rfl rfl c6 c7) rfl ?_
    exact ⟨_, rfl, Kd.R_nil _ _ _ _ _, hs ▸ hB.trans fb⟩
  rw [if_neg c] at h
  obtain ⟨⟨xs, fl⟩, hgo, h2⟩ := Option.bind_eq_some_iff.mp h
  have h2 : (if xs.length ≤ 1000000 then some (xs.map (·.1), frame_All_last a1 xs) else none) = some (r1, r2) := h2
  by_cases hlen : xs.length ≤ 1000000
  case neg => rw [if_neg hlen] at h2; cases h2
  rw [if_pos hlen] at h2
  injection h2 with h2
  injection h2 with h3 h4
  subst h3 h4
  obtain ⟨hch, hc1, hc2⟩ := frame_All_go_ch k l0 _ _ _ _ hgo
  have cb : decide (a2 < 1) = false := decide_eq_false c
  refine (callsIn_wide (n := 5)).1 ?_
  refine callsIn_of_wp_marks Try.func24 rfl trivial ?_ rfl
  simp only [Try.ntmps24, List.size_toArray, List.length_cons, List.length_nil, Nat.reduceAdd, Nat.reduceSub, Array.replicate_succ, Array.replicate_zero, List.push_toArray, List.append_toArray, List.nil_append, List.cons_append]
  gi_wp2_with (refine ⟨trivial, ?_⟩; gi_at_call 46; refine (frame_All_frames _ _ _ _ _ _).mono ?_; rintro e w' ⟨rfl, rfl⟩)
  obtain ⟨W0, hW0⟩ : ∃ W0, (((((w.alloc (.cells #[.int .i64 a2] 3)).alloc (.cells #[.slice none 0 0] 42)).alloc (.cells #[.int .i64 a1] 3)).alloc (.cells #[.slice A0 l0.length c0] 25)).alloc (.cells #[.int .i64 a1] 3)) = W0 := ⟨_, rfl⟩
  have hsz : W0.heap.size = w.heap.size + 5 := by rw [← hW0]; simp
  have hB0 : Below w.heap.size w W0 := by rw [← hW0]; exact below_alloc (below_alloc (below_alloc (below_alloc (below_alloc (Below.refl _ w) _) _) _) _) _
  have b5 : Boxed W0 w.heap.size 3 (.int .i64 a2) := by rw [← hW0]; exact ((((Boxed.new w 3 (.int .i64 a2)).alloc _).alloc _).alloc _).alloc _
  have b6 : Boxed W0 (w.heap.size + 1) 42 (.slice none 0 0) := by
    rw [← hW0]
    have h_ := Boxed.new (w.alloc (.cells #[.int .i64 a2] 3)) 42 (.slice none 0 0)
    rw [World.size_alloc] at h_
    exact ((h_.alloc _).alloc _).alloc _
  have b7 : Boxed W0 (w.heap.size + 2) 3 (.int .i64 a1) := by
    rw [← hW0]
    have h_ := Boxed.new ((w.alloc (.cells #[.int .i64 a2] 3)).alloc (.cells #[.slice none 0 0] 42)) 3 (.int .i64 a1)
    rw [World.size_alloc, World.size_alloc] at h_
    exact (h_.alloc _).alloc _
  have b8 : Boxed W0 (w.heap.size + 3) 25 (.slice A0 l0.length c0) := by
    rw [← hW0]
    have h_ := Boxed.new (((w.alloc (.cells #[.int .i64 a2] 3)).alloc (.cells #[.slice none 0 0] 42)).alloc (.cells #[.int .i64 a1] 3)) 25 (.slice A0 l0.length c0)
    rw [World.size_alloc, World.size_alloc, World.size_alloc] at h_
    exact h_.alloc _
  have b9 : Boxed W0 (w.heap.size + 4) 3 (.int .i64 a1) := by
    rw [← hW0]
    have h_ := Boxed.new ((((w.alloc (.cells #[.int .i64 a2] 3)).alloc (.cells #[.slice none 0 0] 42)).alloc (.cells #[.int .i64 a1] 3)).alloc (.cells #[.slice A0 l0.length c0] 25)) 3 (.int .i64 a1)
    rw [World.size_alloc, World.size_alloc, World.size_alloc, World.size_alloc] at h_
    exact h_
  rw [hW0]
  clear hW0
  simp only [Nat.add_assoc, Nat.reduceAdd]
  obtain ⟨s, hs⟩ : ∃ s, w.heap.size = s := ⟨_, rfl⟩
  rw [hs] at hsz hB0 b5 b6 b7 b8 b9 ⊢
  obtain ⟨i0, hi, hz0, hz1, hz2⟩ := info_parts info25
  have hKt : ∀ {A B C : World}, (Below s A B ∧ B.heap[s + 3]? = A.heap[s + 3]? ∧ B.heap[s + 4]? = A.heap[s + 4]? ∧ A.heap.size ≤ B.heap.size) → (Below s B C ∧ C.heap[s + 3]? = B.heap[s + 3]? ∧ C.heap[s + 4]? = B.heap[s + 4]? ∧ B.heap.size ≤ C.heap.size) → (Below s A C ∧ C.heap[s + 3]? = A.heap[s + 3]? ∧ C.heap[s + 4]? = A.heap[s + 4]? ∧ A.heap.size ≤ C.heap.size) :=
    fun h k => ⟨h.1.trans k.1, k.2.1.trans h.2.1, k.2.2.1.trans h.2.2.1, Nat.le_trans h.2.2.2 k.2.2.2⟩
  refine Go.Proofs.Ytdpodjgggicaoaa.H.rangeFunc_st (F := Fence.wide) (n := 5) rfl (by decide) (gf := 62) (lb := #[.pointer (some ⟨s + 3, 0, none⟩), .pointer (some ⟨s + 4, 0, none⟩)]) rfl trivial (enters_of Try.func62 (by kernel_rfl) rfl)
    (c := s + 4) (by omega) (frame_All_iter k 4 s A0 c0 l0 a1 xs fl w W0 hs hr0 hc0 hch hsz hB0 b8 b9) hKt ⟨Below.refl _ _, rfl, rfl, Nat.le_refl _⟩
    (fun W o hW => ⟨(Below.refl s W).alloc (by omega) o, Below.heap_alloc W o _ (by omega), Below.heap_alloc W o _ (by omega), by simp⟩)
    (fun W l o hl => ⟨⟨rfl, rfl, rfl, by simp, fun k_ hk => World.putObj_heap_other (by omega)⟩, World.putObj_heap_other (by omega), World.putObj_heap_other (by omega), by simp⟩)
    (fun j x W o hP => by
      obtain ⟨y, h1, h2, h3⟩ := hP
      exact ⟨y, h1, h2, Kd.R_mono (Kd.R_move (Kd.R_bound h3) (fun k_ hk => World.putObj_heap_other (by have := hk.2.1; omega))) (fun _ hk => hk.1)⟩)
    (fun _ => rfl)
    (fun j W => ∃ v, frame_All_In s a2 w W v ((xs.take j).map (·.1)) (frame_All_last a1 (xs.take j)) ∧ (j < xs.length ∨ fl = true))
    (fun id j W => id = 0 ∧ ∃ v, frame_All_In s a2 w W v (xs.map (·.1)) (frame_All_last a1 xs))
    (fun j A B r hI hg hr => by
      obtain ⟨v, h1, h2⟩ := hI
      exact ⟨v, frame_All_In_step h1 hg (by omega) (by omega), h2⟩)
    (fun j W o hI hW => by
      obtain ⟨v, h1, h2⟩ := hI
      exact ⟨v, frame_All_In_below h1 (below_alloc (Below.refl _ _) o), h2⟩)
    (fun id j A B r hI hg hr => by
      obtain ⟨h0, v, h1⟩ := hI
      exact ⟨h0, v, frame_All_In_step h1 hg (by omega) (by omega)⟩)
    (fun j W hI => by obtain ⟨_, _, h2⟩ := hI; exact h2)
    ⟨.slice none 0 0, ⟨b5, b6, b7, Kd.R_nil _ _ _ _ _, hB0, by omega⟩, by
      cases fl with
      | true => exact .inr rfl
      | false => have := hc2 rfl; exact .inl (by omega)⟩
    (fun x => { tmps := #[.slice A0 l0.length c0, .int .i64 a1, .int .i64 a2, undef, undef, .pointer (some ⟨s, 0, none⟩), .pointer (some ⟨s + 1, 0, none⟩), .pointer (some ⟨s + 2, 0, none⟩), x.1, .int .i64 x.2, .int .i64 a1, .int .i64 a2, .bool false, undef, .slice A0 l0.length c0, .int .i64 a1, .func (.func 62) #[] #[.pointer (some ⟨s + 3, 0, none⟩), .pointer (some ⟨s + 4, 0, none⟩)], x.1, .int .i64 x.2, undef, undef, undef, undef, undef, undef, undef, undef, undef, undef, undef], defers := [] }) ?assign ?body ?done ?stop
  case assign =>
    intro l x W K hK
    gi_wp2
    exact hK
  case body =>
    rintro l j ⟨xv, xn⟩ W ⟨v, hIn, hgd⟩ ⟨y, hyj, hx2, hR⟩ hsz7
    have hx2 : xn = y.2 := hx2
    subst hx2
    have hR : Kd.R (Kd.int .u8) 5 W (s + 7) (fun _ => True) xv y.1 := hR
    obtain ⟨Ab, cb_, rfl⟩ := Kd.R_slice hR
    have hjl : j < xs.length := (List.getElem?_eq_some_iff.1 hyj).1
    have hs7 : s + 7 ≤ W.heap.size := by omega
    obtain ⟨h0_, inner, hown, hrp⟩ := hIn.row
    have hrl : ((xs.take j).map (·.1)).length = j := by rw [List.length_map, List.length_take]; omega
    have hct : (xs.take (j + 1)).map (·.1) = (xs.take j).map (·.1) ++ [y.1] := by rw [List.take_add_one, hyj, Option.toList_some, List.map_append]; rfl
    have hln : frame_All_last a1 (xs.take (j + 1)) = y.2 := by rw [List.take_add_one, hyj, Option.toList_some, frame_All_last_snoc]
    have hc5 := hIn.b5.cell
    have hc6 := hIn.b6.cell
    have hc7 := hIn.b7.cell
    have hown1 : W.ownsRow (s + 7) 25 1 v ((xs.take j).map (·.1)).length inner := hown
    have hlen1 : ((xs.take j).map (·.1)).length + 1 ≤ 1000001 := by omega
    have hl9 : ((xs.take j).map (·.1) ++ [y.1]).length = j + 1 := by rw [List.length_append, hrl]; rfl
    by_cases he : ((j + 1 : Nat) : Int) = a2
    · have heb : (((j + 1 : Nat) : Int) == a2) = true := by rw [he]; exact beq_self_eq_true _
      have hfl : xs.length = j + 1 := by
        cases fl with
        | true => have := hc1 rfl; omega
        | false => have := hc2 rfl; omega
      have htk : xs.take (j + 1) = xs := List.take_of_length_le (by omega)
      rw [htk] at hct hln
      have HCT := Aside0.mk hct
      have HLN := Aside0.mk hln
      have HL9 := Aside0.mk hl9
      have HRL := Aside0.mk hrl
      clear he hfl htk hct hln
      gi_wp2_with (gi_at_builtin; refine wpListIn_append_own_at _ rfl _ _ 42 rfl (s + 7) 25 i0 (.slice none 0 0) 1 24 Try.underlying42 hi hz0 hz1 hz2 rfl (by decide) v ((xs.take j).map (·.1)).length inner rfl (hown1.alloc _) ⟨W.heap.size, 0, none⟩ 1 1 [.slice Ab y.1.length cb_] rfl rfl (cell_one_new _ _ _) (by simp [Value.oneCell']) (by unfold maxLen; omega) (by omega) (by simp; omega) ?_; intro v' w1 hown' hgrow _ hat; obtain ⟨⟨d6, d7⟩, dIn, dK, dKp⟩ := frame_All_round hIn hs7 hR hown1 hrp hown' hgrow hat y.2; obtain ⟨A9, c9, e9⟩ := Kd.R_slice dIn.row; rw [hl9] at e9; subst e9; have e6 := d6.cell; have f6 := d6.frozen; have e7 := d7.cell; have f7 := d7.frozen; have g5 := dIn.b5.cell; have g6 := dIn.b6.cell)
      exact ⟨dK, rfl, _, by rw [HCT.out, HLN.out]; exact dIn⟩
    · have heb : (((j + 1 : Nat) : Int) == a2) = false := beq_eq_false_iff_ne.2 he
      have hgd2 : j + 1 < xs.length ∨ fl = true := by
        cases fl with
        | true => exact .inr rfl
        | false => have := hc2 rfl; exact .inl (by omega)
      clear he
      gi_wp2_with (gi_at_builtin; refine wpListIn_append_own_at _ rfl _ _ 42 rfl (s + 7) 25 i0 (.slice none 0 0) 1 24 Try.underlying42 hi hz0 hz1 hz2 rfl (by decide) v ((xs.take j).map (·.1)).length inner rfl (hown1.alloc _) ⟨W.heap.size, 0, none⟩ 1 1 [.slice Ab y.1.length cb_] rfl rfl (cell_one_new _ _ _) (by simp [Value.oneCell']) (by unfold maxLen; omega) (by omega) (by simp; omega) ?_; intro v' w1 hown' hgrow _ hat; obtain ⟨⟨d6, d7⟩, dIn, dK, dKp⟩ := frame_All_round hIn hs7 hR hown1 hrp hown' hgrow hat y.2; obtain ⟨A9, c9, e9⟩ := Kd.R_slice dIn.row; rw [hl9] at e9; subst e9; have e6 := d6.cell; have f6 := d6.frozen; have e7 := d7.cell; have f7 := d7.frozen; have g5 := dIn.b5.cell; have g6 := dIn.b6.cell)
      exact ⟨dK, dKp, ⟨_, by rw [← List.map_take, hct, hln]; exact dIn⟩, hgd2⟩
  case done =>
    rintro D j W hD ⟨rfl, hfl⟩ ⟨v, hIn, _⟩ hK
    rw [List.take_of_length_le (Nat.le_refl _)] at hIn
    have g6 := hIn.b6.cell
    have g7 := hIn.b7.cell
    have k6 := hIn.b6.frozen
    have k7 := hIn.b7.frozen
    obtain ⟨A9, c9, rfl⟩ := Kd.R_slice hIn.row
    gi_wp2
    have m7 : ∀ u, (W.setCell ⟨s + 1, 0, none⟩ u).cell? ⟨s + 2, 0, none⟩ = W.cell? ⟨s + 2, 0, none⟩ := fun u => World.cell?_of_block (Below.heap_setCell W ⟨s + 1, 0, none⟩ u (s + 2) (by simp))
    have n7 : ∀ u, (W.setCell ⟨s + 1, 0, none⟩ u).frozen? ⟨s + 2, 0, none⟩ = W.frozen? ⟨s + 2, 0, none⟩ := fun u => World.frozen?_of_block (Below.heap_setCell W ⟨s + 1, 0, none⟩ u (s + 2) (by simp))
    refine wpIn_wide.2 ?_
    go_region
    obtain ⟨f6, f7, fo, fb⟩ := frame_All_fin (x := .int .i64 (frame_All_last a1 xs)) hIn.b6 hIn.b7
    have hrow := Kd.R_mono (Kd.R_move (w1 := ((W.setCell ⟨s + 1, 0, none⟩ (.slice A9 (xs.map (·.1)).length c9)).setCell ⟨s + 2, 0, none⟩ (.int .i64 (frame_All_last a1 xs))).drew) (Kd.R_bound hIn.row) (fun k_ hk => fo k_ (by have := hk.2.1; omega) (by have := hk.2.1; omega))) (fun _ hk => hk.1)
    have hK2 := (fo D (by omega) (by omega)).trans hK
    rw [List.length_map] at f6 f7 fo fb hrow hK2
    generalize ((W.setCell ⟨s + 1, 0, none⟩ (.slice A9 xs.length c9)).setCell ⟨s + 2, 0, none⟩ (.int .i64 (frame_All_last a1 xs))).drew = W2 at f6 f7 fo fb hrow hK2 ⊢
    have c6 := f6.cell
    have c7 := f7.cell
    gi_wp2
    have hDs := (Array.getElem?_eq_some_iff.1 hK2).1
    have c6' : (W2.putObj D (.deferred none)).cell? ⟨s + 1, 0, none⟩ = some (.slice A9 xs.length c9) := (World.cell?_of_block (World.putObj_heap_other (by simp; omega))).trans c6
    have c7' : (W2.putObj D (.deferred none)).cell? ⟨s + 2, 0, none⟩ = some (.int .i64 (frame_All_last a1 xs)) := (World.cell?_of_block (World.putObj_heap_other (by simp; omega))).trans c7
    refine ⟨by simp, .inl ⟨_, _, rfl, run_takeDeferred hK2, ?_⟩⟩
    refine ⟨_, frame_All_res rfl rfl c6' c7', _, rfl, ?_, ?_⟩
    · refine Kd.R_lower (Kd.R_mono (Kd.R_move (Kd.R_bound hrow) (fun k_ hk => World.putObj_heap_other (fun e => ?_))) (fun _ hk => hk.1)) (by omega)
      obtain ⟨_, _, _, q_, _, cells_, hcl⟩ := hk
      rw [e, hK2] at hcl
      cases hcl
    · rw [hs]
      exact (hIn.below.trans fb).trans ⟨rfl, rfl, rfl, by simp, fun k_ hk => World.putObj_heap_other (by omega)⟩
  case stop =>
    rintro D id j W hD ⟨rfl, v, hIn⟩ hK
    have g6 := hIn.b6.cell
    have g7 := hIn.b7.cell
    have k6 := hIn.b6.frozen
    have k7 := hIn.b7.frozen
    obtain ⟨A9, c9, rfl⟩ := Kd.R_slice hIn.row
    gi_wp2
    have m7 : ∀ u, (W.setCell ⟨s + 1, 0, none⟩ u).cell? ⟨s + 2, 0, none⟩ = W.cell? ⟨s + 2, 0, none⟩ := fun u => World.cell?_of_block (Below.heap_setCell W ⟨s + 1, 0, none⟩ u (s + 2) (by simp))
    have n7 : ∀ u, (W.setCell ⟨s + 1, 0, none⟩ u).frozen? ⟨s + 2, 0, none⟩ = W.frozen? ⟨s + 2, 0, none⟩ := fun u => World.frozen?_of_block (Below.heap_setCell W ⟨s + 1, 0, none⟩ u (s + 2) (by simp))
    refine wpIn_wide.2 ?_
    go_region
    obtain ⟨f6, f7, fo, fb⟩ := frame_All_fin (x := .int .i64 (frame_All_last a1 xs)) hIn.b6 hIn.b7
    have hrow := Kd.R_mono (Kd.R_move (w1 := ((W.setCell ⟨s + 1, 0, none⟩ (.slice A9 (xs.map (·.1)).length c9)).setCell ⟨s + 2, 0, none⟩ (.int .i64 (frame_All_last a1 xs))).drew) (Kd.R_bound hIn.row) (fun k_ hk => fo k_ (by have := hk.2.1; omega) (by have := hk.2.1; omega))) (fun _ hk => hk.1)
    have hK2 := (fo D (by omega) (by omega)).trans hK
    rw [List.length_map] at f6 f7 fo fb hrow hK2
    generalize ((W.setCell ⟨s + 1, 0, none⟩ (.slice A9 xs.length c9)).setCell ⟨s + 2, 0, none⟩ (.int .i64 (frame_All_last a1 xs))).drew = W2 at f6 f7 fo fb hrow hK2 ⊢
    have c6 := f6.cell
    have c7 := f7.cell
    gi_wp2
    have hDs := (Array.getElem?_eq_some_iff.1 hK2).1
    have c6' : (W2.putObj D (.deferred none)).cell? ⟨s + 1, 0, none⟩ = some (.slice A9 xs.length c9) := (World.cell?_of_block (World.putObj_heap_other (by simp; omega))).trans c6
    have c7' : (W2.putObj D (.deferred none)).cell? ⟨s + 2, 0, none⟩ = some (.int .i64 (frame_All_last a1 xs)) := (World.cell?_of_block (World.putObj_heap_other (by simp; omega))).trans c7
    refine ⟨by simp, .inl ⟨_, _, rfl, run_takeDeferred hK2, ?_⟩⟩
    refine ⟨_, frame_All_res rfl rfl c6' c7', _, rfl, ?_, ?_⟩
    · refine Kd.R_lower (Kd.R_mono (Kd.R_move (Kd.R_bound hrow) (fun k_ hk => World.putObj_heap_other (fun e => ?_))) (fun _ hk => hk.1)) (by omega)
      obtain ⟨_, _, _, q_, _, cells_, hcl⟩ := hk
      rw [e, hK2] at hcl
      cases hcl
    · rw [hs]
      exact (hIn.below.trans fb).trans ⟨rfl, rfl, rfl, by simp, fun k_ hk => World.putObj_heap_other (by omega)⟩
def merkhetlaw06_laid.l0 : Nat → List Int → List Int → List (List Int) → Int → Int → Option (List Int × List Int × Bool)
  | 0, _, _, _, _, _ => none
  | k + 1, x5, x6, x11, x12, x13 => if x13 < x12 then (if 0 ≤ x13 then (if x13 < (x11.length : Int) then ((frame_Put.f k (rd_L1 x11 x13)).bind fun bt140 => (if bt140.2 = 0 then (if x5.length + bt140.1.length < 140737488355328 then ((some (x5 ++ bt140.1 : List Int)).bind fun y144 => (if x6.length < 17592186044416 then (merkhetlaw06_laid.l0 k y144 (x6 ++ [(y144.length : Int)]) x11 x12 (wrap64 (x13 + 1))) else (none))) else (none)) else (some (([] : List Int), ([] : List Int), false)))) else (none)) else (none)) else (some (x5, x6, true))
def merkhetlaw06_laid.f (k : Nat) (l0 : List (List Int)) : Option (List Int × List Int × Bool) := merkhetlaw06_laid.l0 k ([] : List Int) ([] : List Int) l0 (l0.length : Int) 0
theorem merkhetlaw06_laid.mono_l : ∀ k, (∀ y0 y1 y2 y3 y4, LeO (merkhetlaw06_laid.l0 k y0 y1 y2 y3 y4) (merkhetlaw06_laid.l0 (k + 1) y0 y1 y2 y3 y4))
  | 0 => fun _ _ _ _ _ r h => by simp [merkhetlaw06_laid.l0] at h
  | k + 1 => by
    have ih0 := merkhetlaw06_laid.mono_l k
    · intro y0 y1 y2 y3 y4
      unfold merkhetlaw06_laid.l0
      repeat' first
      | (with_reducible exact ih0 _ _ _ _ _)
      | (with_reducible exact frame_Put.mono _ _)
      | (with_reducible exact LeO.refl _)
      | (with_reducible exact LeO.none _)
      | (with_reducible refine LeO.ite ?_ ?_)
      | (with_reducible refine LeO.bind ?_ (fun _ => ?_))
      | exact ih0 _ _ _ _ _
      | exact frame_Put.mono _ _
      | exact LeO.none _
      | refine LeO.ite ?_ ?_
      | refine LeO.bind ?_ (fun _ => ?_)
theorem merkhetlaw06_laid.mono : ∀ a0 k, LeO (merkhetlaw06_laid.f k a0) (merkhetlaw06_laid.f (k + 1) a0) := by
  intro a0 k
  have ih0 := merkhetlaw06_laid.mono_l k
  unfold merkhetlaw06_laid.f
  repeat' first
      | (with_reducible exact ih0 _ _ _ _ _)
      | (with_reducible exact frame_Put.mono _ _)
      | (with_reducible exact LeO.refl _)
      | (with_reducible exact LeO.none _)
      | (with_reducible refine LeO.ite ?_ ?_)
      | (with_reducible refine LeO.bind ?_ (fun _ => ?_))
      | exact ih0 _ _ _ _ _
      | exact frame_Put.mono _ _
      | exact LeO.none _
      | refine LeO.ite ?_ ?_
      | refine LeO.bind ?_ (fun _ => ?_)
set_option maxHeartbeats 8000000 in
set_option maxRecDepth 100000 in
theorem merkhetlaw06_laid.calls (k : Nat) (A0 : Option Addr) (c0 : Nat) (l0 : List (List Int)) (r1 : List Int) (r2 : List Int) (r3 : Bool) (w : World) (hr0 : Kd.C (Kd.slice 5 (Kd.int .u8)) w A0 l0.length l0) (hc0 : l0.length ≤ c0) (h : merkhetlaw06_laid.f k l0 = some (r1, r2, r3)) :
    Calls Try.prog 27 #[.slice A0 l0.length c0] w fun e w' => ∃ v0_ v1_ : Value, e = .returned (.tuple #[v0_, v1_, .bool r3]) ∧ Kd.R (Kd.int .u8) 5 w' w.heap.size (fun _ => True) v0_ r1 ∧ Kd.R (Kd.int .i64) 3 w' w.heap.size (fun _ => True) v1_ r2 ∧ Below w.heap.size w w' := by
  have HR0 := Aside0.mk hr0
  have HC0 := Aside0.mk hc0
  clear hr0 hc0
  have HB := Aside0.mk (Below.refl w.heap.size w)
  have H : (merkhetlaw06_laid.l0 k ([] : List Int) ([] : List Int) l0 (l0.length : Int) 0) = some (r1, r2, r3) := h
  clear h
  have H' := Aside0.mk H
  clear H
  go_enter Try.func27, Try.ntmps27
  go_wp2
  go_loopg [5, 6, 13] k (fun kq v5 v6 v13 w' => ∃ (x5_1 : List Int) (x6_1 : List Int) (x13_1 : Int), v13 = .int .i64 x13_1 ∧ Aside0 (merkhetlaw06_laid.l0 kq x5_1 x6_1 l0 (l0.length : Int) x13_1 = some (r1, r2, r3)) ∧ Aside0 (kq ≤ k) ∧ Aside0 (Kd.R (Kd.int .u8) 5 w' w.heap.size (fun _ => True) v5 x5_1) ∧ Aside0 (Kd.R (Kd.int .i64) 3 w' w.heap.size (fun _ => True) v6 x6_1) ∧ Aside0 (Below w.heap.size w w'))
  case atStart => exact ⟨(([] : List Int)), (([] : List Int)), (0), (by first | rfl | (simp; done) | (simp [*]; done)), H', ⟨Nat.le_refl _⟩, ⟨by first | exact Kd.R_nil _ _ _ _ _ | exact Kd.N_nil _ _ _ _ _ | exact Kd.V_nil _ _ _ _ _ | exact Kd.Q_nil _ _ _ _ _ | exact Kd.S_nil _ _ _ _ _⟩, ⟨by first | exact Kd.R_nil _ _ _ _ _ | exact Kd.N_nil _ _ _ _ _ | exact Kd.V_nil _ _ _ _ _ | exact Kd.Q_nil _ _ _ _ _ | exact Kd.S_nil _ _ _ _ _⟩, ⟨by repeat (first | (with_reducible first | exact HB.out | apply below_alloc | apply pw_below_drewN | apply below_drew1) | exact HB.out)⟩⟩
  case round =>
    clear H'
    obtain ⟨x5_1, x6_1, x13_1, rfl, HA, HK1, HO_5, HO_6, HB⟩ := hrel
    cases gk with
    | zero => exact absurd HA.out (by simp [merkhetlaw06_laid.l0])
    | succ k1 =>
      have H := HA.out
      clear HA
      simp only [merkhetlaw06_laid.l0] at H
      by_cases c2 : x13_1 < (l0.length : Int)
      · rw [if_pos c2] at H
        have c2b0 : decide (x13_1 < (l0.length : Int)) = true := decide_eq_true c2
        clear c2
        by_cases c3 : 0 ≤ x13_1
        · rw [if_pos c3] at H
          have c3b0 : decide (0 ≤ x13_1) = true := decide_eq_true c3
          clear c3
          by_cases c4 : x13_1 < (l0.length : Int)
          · rw [if_pos c4] at H
            have c4b0 : decide (x13_1 < (l0.length : Int)) = true := decide_eq_true c4
            clear c4
            replace H := Option.bind_eq_some_iff.mp H
            obtain ⟨⟨t140, t141⟩, A50, H⟩ := H
            replace H : (if t141 = 0 then (if x5_1.length + t140.length < 140737488355328 then ((some (x5_1 ++ t140 : List Int)).bind fun y144 => (if x6_1.length < 17592186044416 then (merkhetlaw06_laid.l0 k1 y144 (x6_1 ++ [(y144.length : Int)]) l0 (l0.length : Int) (wrap64 (x13_1 + 1))) else (none))) else (none)) else (some (([] : List Int), ([] : List Int), false))) = some (r1, r2, r3) := H
            have A5 := Aside0.mk A50
            clear A50
            by_cases c6 : t141 = 0
            · rw [if_pos c6] at H
              have c6b0 : (t141 == 0) = true := beq_iff_eq.mpr c6
              have c6b1 : (t141 != 0) = false := bne_eq_false_iff_eq.mpr c6
              clear c6
              by_cases c7 : x5_1.length + t140.length < 140737488355328
              · rw [if_pos c7] at H
                have LMc7 := Aside0.mk c7
                clear c7
                obtain ⟨y144, hy144⟩ : ∃ y_ : List Int, y_ = (x5_1 ++ t140) := ⟨_, rfl⟩
                replace H : (if x6_1.length < 17592186044416 then (merkhetlaw06_laid.l0 k1 y144 (x6_1 ++ [(y144.length : Int)]) l0 (l0.length : Int) (wrap64 (x13_1 + 1))) else (none)) = some (r1, r2, r3) := by first | (rw [hy144]; with_reducible exact H) | (have H2_ := (Option.bind_some _ _).symm.trans H; rw [hy144]; with_reducible exact H2_) | (have H2_ := (Option.bind_some _ _).symm.trans H; with_reducible exact H2_) | with_reducible exact H | (rw [hy144]; exact H) | exact H
                have Ny144 := Aside0.mk hy144
                clear hy144
                by_cases c8 : x6_1.length < 17592186044416
                · rw [if_pos c8] at H
                  have LMc8 := Aside0.mk c8
                  clear c8
                  obtain ⟨y147, hy147⟩ : ∃ y_ : List Int, y_ = (x6_1 ++ [(y144.length : Int)]) := ⟨_, rfl⟩
                  replace H : (merkhetlaw06_laid.l0 k1 y144 y147 l0 (l0.length : Int) (wrap64 (x13_1 + 1))) = some (r1, r2, r3) := by first | (rw [hy147]; with_reducible exact H) | (have H2_ := (Option.bind_some _ _).symm.trans H; rw [hy147]; with_reducible exact H2_) | (have H2_ := (Option.bind_some _ _).symm.trans H; with_reducible exact H2_) | with_reducible exact H | (rw [hy147]; exact H) | exact H
                  have Ny147 := Aside0.mk hy147
                  clear hy147
                  have H' := Aside0.mk H
                  clear H
                  have p139 : 0 ≤ (x13_1 : Int) := of_decide_eq_true (by first | (with_reducible assumption) | assumption)
                  have q139 : x13_1 < (l0.length : Int) := of_decide_eq_true (by first | (with_reducible assumption) | assumption)
                  obtain ⟨ad139, A139_0, c139_0, e139, hx139_0, hl139_0, hi139_0⟩ := at_L1 HR0.out x13_1 p139 q139
                  cases e139
                  replace hx139_0 := (HB.out.cell (World.block_lt_of_cell? w _ hx139_0)).trans hx139_0
                  have HR139_0 := Aside0.mk hi139_0
                  have HC139_0 := Aside0.mk hl139_0
                  clear hi139_0 hl139_0
                  replace p139 := eq_true p139
                  replace q139 := eq_true q139
                  go_wp2_with (first | ((with_reducible refine gate_callee (f := 20) rfl ?_); refine goesL_ (some 19) rfl rfl Try.func20 (by kernel_rfl) rfl #[.slice A139_0 (rd_L1 l0 x13_1).length c139_0] rfl (by (try simp only [List.map_toArray, List.map_cons, List.map_nil]); first | done | rfl | (simp only [List.length_drop, List.length_take]; rfl)) ?_; (with_reducible refine (frame_Put.calls k1 _ _ (rd_L1 l0 x13_1) t140 t141 _ ?side1 ?side2 A5.out).mono ?_); (case side1 => repeat (first | exact (Kd.C_below HR139_0.out HB.out) | (with_reducible refine Kd.C_alloc ?_ _) | (with_reducible refine Kd.C_drewN ?_ _) | (with_reducible refine Kd.C_drew ?_))); (case side2 => exact HC139_0.out); rintro e w9 ⟨v142, rfl, ho0, hb⟩; refine ⟨_, rfl, ?_⟩; have n0_ := Aside0.mk (Kd.R_elder' (by (with_reducible repeat (first | apply Kd.R_alloc | apply Kd.R_drewN | apply Kd.R_drew)); exact HO_5.out) (Kd.R_base ho0) hb); have n1_ := Aside0.mk (Kd.R_below (by (with_reducible repeat (first | apply Kd.R_alloc | apply Kd.R_drewN | apply Kd.R_drew)); exact HO_6.out) hb); have n2_ := Aside0.mk (Kd.R_lower (Kd.R_new' ho0 (Kd.R_lt (by (with_reducible repeat (first | apply Kd.R_alloc | apply Kd.R_drewN | apply Kd.R_drew)); exact HO_5.out))) (below_size (by repeat (first | (with_reducible first | exact HB.out | apply below_alloc | apply pw_below_drewN | apply below_drew1) | exact HB.out)))); have n3_ := Aside0.mk (below_step (by repeat (first | (with_reducible first | exact HB.out | apply below_alloc | apply pw_below_drewN | apply below_drew1) | exact HB.out)) hb); clear HO_5; clear HO_6; clear HB; have HO_5 := n0_; have HO_6 := n1_; have HO143 := n2_; have HB := n3_; clear n0_ n1_ n2_ n3_; (try clear hb); (try clear hb2); (try clear hk); (try clear hi); (try clear ho0); obtain ⟨Ao11, co11, eo11⟩ := Kd.R_slice HO143.out; subst eo11) | ((with_reducible refine gate_builtin (b := .append) (xs := #[.tmp 24, .tmp 25]) rfl ?_); at_builtin; refine Kd.R_append_rows (Kd.int .u8) (w0 := w) w.heap.size rfl (.tmp 24) (.tmp 25) 25 5 (.int .u8 0) 1 rfl Try.underlying25 info5 rfl (by decide) (by omega) u5 x5_1 t140 _ _ _ (fun k_ => some k_ ≠ (.slice Ao11 t140.length co11 : Value).ownBlock) (fun _ => False) rfl rfl ?aO ?aR (fun _ _ h => h) (fun _ h => h.elim) ?aF ?aB ?aS ?aL ?_; (case aR => repeat (first | exact (Kd.R_reads' HO143.out).2.2 | (with_reducible refine Kd.C_alloc ?_ _) | (with_reducible refine Kd.C_drewN ?_ _) | (with_reducible refine Kd.C_drew ?_))); (case aB => exact (by repeat (first | (with_reducible first | exact HB.out | apply below_alloc | apply pw_below_drewN | apply below_drew1) | exact HB.out))); (case aF => exact (fun k_ hk => Kd.fresh' (Kd.R_lt (by (with_reducible repeat (first | apply Kd.R_alloc | apply Kd.R_drewN | apply Kd.R_drew)); exact HO143.out)) k_ hk)); (case aO => exact (by (with_reducible repeat (first | apply Kd.R_alloc | apply Kd.R_drewN | apply Kd.R_drew)); exact Kd.R_mono HO_5.out (fun _ hk => hk.2))); (case aS => exact (below_size (by repeat (first | (with_reducible first | exact HB.out | apply below_alloc | apply pw_below_drewN | apply below_drew1) | exact HB.out)))); (case aL => have := LMc7.out; omega); intro v145 w10 ho hb hg hat; rw [← Ny144.out] at ho; have n0_ := Aside0.mk (Kd.R_over' (by (with_reducible repeat (first | apply Kd.R_alloc | apply Kd.R_drewN | apply Kd.R_drew)); exact HO_6.out) (Kd.R_typed (by (with_reducible repeat (first | apply Kd.R_alloc | apply Kd.R_drewN | apply Kd.R_drew)); exact HO_5.out)) (by decide) hg); have n1_ := Aside0.mk (Kd.R_after (ok := (fun _ => True)) (by (with_reducible repeat (first | apply Kd.R_alloc | apply Kd.R_drewN | apply Kd.R_drew)); exact HO143.out) hg hat); have n2_ := Aside0.mk (hb); have n3_ := Aside0.mk (ho); clear HO_6; clear HO143; clear HB; clear HO_5; have HO_6 := n0_; have HO143 := n1_; have HB := n2_; have HO146 := n3_; clear n0_ n1_ n2_ n3_; clear ho hb hg hat; obtain ⟨Ao12, co12, eo12⟩ := Kd.R_slice HO146.out; subst eo12) | ((with_reducible refine gate_builtin (b := .append) (xs := #[.tmp 27, .tmp 30]) rfl ?_); at_builtin; refine Kd.R_append (Kd.int .i64) (w0 := w) w.heap.size rfl (.tmp 27) (.tmp 30) 50 3 (.int .i64 0) 8 rfl Try.underlying50 info3 rfl (by decide) (by omega) u6 x6_1 (y144.length : Int) [.int .i64 (y144.length : Int)] (fun _ => True) (fun _ => False) rfl rfl ?aP (fun _ hk => hk.elim) ?aF ?aO ?aB ?aS ?aL ?_; (case aP => exact rfl); (case aB => exact (by repeat (first | (with_reducible first | exact HB.out | apply below_alloc | apply pw_below_drewN | apply below_drew1) | exact HB.out))); (case aF => exact (fun _ _ => trivial)); (case aO => exact (by (with_reducible repeat (first | apply Kd.R_alloc | apply Kd.R_drewN | apply Kd.R_drew)); exact HO_6.out)); (case aS => exact (below_size (by repeat (first | (with_reducible first | exact HB.out | apply below_alloc | apply pw_below_drewN | apply below_drew1) | exact HB.out)))); (case aL => have := LMc8.out; omega); intro v148 w13 ho hb hg hat; rw [← Ny147.out] at ho; have n0_ := Aside0.mk (Kd.R_over' (by (with_reducible repeat (first | apply Kd.R_alloc | apply Kd.R_drewN | apply Kd.R_drew)); exact HO143.out) (Kd.R_typed (by (with_reducible repeat (first | apply Kd.R_alloc | apply Kd.R_drewN | apply Kd.R_drew)); exact HO_6.out)) (by decide) hg); have n1_ := Aside0.mk (Kd.R_over' (by (with_reducible repeat (first | apply Kd.R_alloc | apply Kd.R_drewN | apply Kd.R_drew)); exact HO146.out) (Kd.R_typed (by (with_reducible repeat (first | apply Kd.R_alloc | apply Kd.R_drewN | apply Kd.R_drew)); exact HO_6.out)) (by decide) hg); have n2_ := Aside0.mk (hb); have n3_ := Aside0.mk (ho); clear HO143; clear HO146; clear HB; clear HO_6; have HO143 := n0_; have HO146 := n1_; have HB := n2_; have HO149 := n3_; clear n0_ n1_ n2_ n3_; clear ho hb hg hat))
                  go_roundg k1
                  case measure => have := HK1.out; omega
                  case rel => exact ⟨(y144), (y147), (wrap64 (x13_1 + 1)), (by first | rfl | (simp; done) | (simp [*]; done)), H', ⟨by have := HK1.out; omega⟩, ⟨by (with_reducible repeat (first | apply Kd.R_alloc | apply Kd.R_drewN | apply Kd.R_drew)); exact Kd.R_mono HO146.out (fun _ hk => trivial)⟩, ⟨by (with_reducible repeat (first | apply Kd.R_alloc | apply Kd.R_drewN | apply Kd.R_drew)); exact HO149.out⟩, ⟨by repeat (first | (with_reducible first | exact HB.out | apply below_alloc | apply pw_below_drewN | apply below_drew1) | exact HB.out)⟩⟩
                · rw [if_neg c8] at H
                  exact absurd H (by simp)
              · rw [if_neg c7] at H
                exact absurd H (by simp)
            · rw [if_neg c6] at H
              have c6b0 : (t141 == 0) = false := beq_eq_false_iff_ne.mpr c6
              have c6b1 : (t141 != 0) = true := bne_iff_ne.mpr c6
              simp only [Option.some.injEq, Prod.mk.injEq] at H
              obtain ⟨rfl, rfl, rfl⟩ := H
              have p139 : 0 ≤ (x13_1 : Int) := of_decide_eq_true (by first | (with_reducible assumption) | assumption)
              have q139 : x13_1 < (l0.length : Int) := of_decide_eq_true (by first | (with_reducible assumption) | assumption)
              obtain ⟨ad139, A139_0, c139_0, e139, hx139_0, hl139_0, hi139_0⟩ := at_L1 HR0.out x13_1 p139 q139
              cases e139
              replace hx139_0 := (HB.out.cell (World.block_lt_of_cell? w _ hx139_0)).trans hx139_0
              have HR139_0 := Aside0.mk hi139_0
              have HC139_0 := Aside0.mk hl139_0
              clear hi139_0 hl139_0
              replace p139 := eq_true p139
              replace q139 := eq_true q139
              go_wp2_with (first | ((with_reducible refine gate_callee (f := 20) rfl ?_); refine goesL_ (some 19) rfl rfl Try.func20 (by kernel_rfl) rfl #[.slice A139_0 (rd_L1 l0 x13_1).length c139_0] rfl (by (try simp only [List.map_toArray, List.map_cons, List.map_nil]); first | done | rfl | (simp only [List.length_drop, List.length_take]; rfl)) ?_; (with_reducible refine (frame_Put.calls k1 _ _ (rd_L1 l0 x13_1) t140 t141 _ ?side1 ?side2 A5.out).mono ?_); (case side1 => repeat (first | exact (Kd.C_below HR139_0.out HB.out) | (with_reducible refine Kd.C_alloc ?_ _) | (with_reducible refine Kd.C_drewN ?_ _) | (with_reducible refine Kd.C_drew ?_))); (case side2 => exact HC139_0.out); rintro e w14 ⟨v142, rfl, ho0, hb⟩; refine ⟨_, rfl, ?_⟩; have n0_ := Aside0.mk (Kd.R_elder' (by (with_reducible repeat (first | apply Kd.R_alloc | apply Kd.R_drewN | apply Kd.R_drew)); exact HO_5.out) (Kd.R_base ho0) hb); have n1_ := Aside0.mk (Kd.R_below (by (with_reducible repeat (first | apply Kd.R_alloc | apply Kd.R_drewN | apply Kd.R_drew)); exact HO_6.out) hb); have n2_ := Aside0.mk (Kd.R_lower (Kd.R_new' ho0 (Kd.R_lt (by (with_reducible repeat (first | apply Kd.R_alloc | apply Kd.R_drewN | apply Kd.R_drew)); exact HO_5.out))) (below_size (by repeat (first | (with_reducible first | exact HB.out | apply below_alloc | apply pw_below_drewN | apply below_drew1) | exact HB.out)))); have n3_ := Aside0.mk (below_step (by repeat (first | (with_reducible first | exact HB.out | apply below_alloc | apply pw_below_drewN | apply below_drew1) | exact HB.out)) hb); clear HO_5; clear HO_6; clear HB; have HO_5 := n0_; have HO_6 := n1_; have HO143 := n2_; have HB := n3_; clear n0_ n1_ n2_ n3_; (try clear hb); (try clear hb2); (try clear hk); (try clear hi); (try clear ho0)))
              go_ret3
              exact ⟨_, _, by first | rfl | (simp [errW_none, errW_some] <;> rfl) | (simp [*, errW_none, errW_some] <;> rfl), by first | exact Kd.R_nil _ _ _ _ _ | exact Kd.N_nil _ _ _ _ _ | exact Kd.V_nil _ _ _ _ _ | exact Kd.Q_nil _ _ _ _ _ | exact Kd.S_nil _ _ _ _ _, by first | exact Kd.R_nil _ _ _ _ _ | exact Kd.N_nil _ _ _ _ _ | exact Kd.V_nil _ _ _ _ _ | exact Kd.Q_nil _ _ _ _ _ | exact Kd.S_nil _ _ _ _ _, by repeat (first | (with_reducible first | exact HB.out | apply below_alloc | apply pw_below_drewN | apply below_drew1) | exact HB.out)⟩
          · rw [if_neg c4] at H
            exact absurd H (by simp)
        · rw [if_neg c3] at H
          exact absurd H (by simp)
      · rw [if_neg c2] at H
        have c2b0 : decide (x13_1 < (l0.length : Int)) = false := decide_eq_false c2
        clear c2
        simp only [Option.some.injEq, Prod.mk.injEq] at H
        obtain ⟨rfl, rfl, rfl⟩ := H
        go_wp2
        go_ret3
        exact ⟨_, _, by first | rfl | (simp [errW_none, errW_some] <;> rfl) | (simp [*, errW_none, errW_some] <;> rfl), by (with_reducible repeat (first | apply Kd.R_alloc | apply Kd.R_drewN | apply Kd.R_drew)); exact HO_5.out, by (with_reducible repeat (first | apply Kd.R_alloc | apply Kd.R_drewN | apply Kd.R_drew)); exact HO_6.out, by repeat (first | (with_reducible first | exact HB.out | apply below_alloc | apply pw_below_drewN | apply below_drew1) | exact HB.out)⟩
end Go.Proofs.Ytdpodjgggicaoaa.FC
