-- WRITTEN FOR THIS CLAIM by wip/tools/mp.py, a program of this project that drives the kit's print; the functions that the print does not take are this project's own texts.
import Derived.Test.YtdpodjgggicaoaaSSx0q
import Derived.Test.YtdpodjgggicaoaaSSx6q
import Derived.Test.YtdpodjgggicaoaaSSx8q
import Derived.Test.YtdpodjgggicaoaaSSx9q
namespace Go.Proofs.Ytdpodjgggicaoaa.SS
open Go.RowKit Go.Proofs.YtdpodjgggicaoaaW.PrintWords Go.Proofs.YtdpodjgggicaoaaW.PrintLast Go.Proofs.YtdpodjgggicaoaaW.PrintMore
attribute [local go_sem] max2_int min2_int max_two min_two max_three min_three max_four min_four   -- for this text's walks alone
set_option linter.unusedVariables false
set_option linter.unusedSimpArgs false
mutual
def merkhetref04_Get.j0 : Nat → ByteArray → Int → Bool → Option ((List (S77)) × Int)
  | 0, _, _, _ => none
  | k + 1, x0, x4, x34 => if x34 = true then (some (([] : List (S77)), 3)) else (if (x0.size : Int) < (wrap64 (6 + (wrap64 (75 * (wrap64 (x4)))))) then (some (([] : List (S77)), 2)) else (if (x0.size : Int) > (wrap64 (6 + (wrap64 (75 * (wrap64 (x4)))))) then (some (([] : List (S77)), 3)) else (merkhetref04_Get.l0 k x0 (([] : List (S77))) 6)))
def merkhetref04_Get.l0 : Nat → ByteArray → List (S77) → Int → Option ((List (S77)) × Int)
  | 0, _, _, _ => none
  | k + 1, x0, x6, x7 => if x7 < (x0.size : Int) then (merkhetref04_Get.l1 k x0 x6 x7 (([] : List Int)) (([8, 8, 8, 1, 8, 8] : List Int)) x7 0) else (some (x6, 0))
def merkhetref04_Get.l1 : Nat → ByteArray → List (S77) → Int → List Int → List Int → Int → Int → Option ((List (S77)) × Int)
  | 0, _, _, _, _, _, _, _ => none
  | k + 1, x0, x6, x7, x8, x9, x10, x11 => if x11 < (x9.length : Int) then (if 0 ≤ x11 then ((merkhetref02_Get.f k x0 x10 (rd x9 x11)).bind fun bt282 => (if x8.length < 17592186044416 then (merkhetref04_Get.l1 k x0 x6 x7 (x8 ++ [bt282.1]) x9 (wrap64 (x10 + (rd x9 x11))) (wrap64 (x11 + 1))) else (none))) else (none)) else ((merkhetref02_GetText.f k x0 x10).bind fun bt288 => (if bt288.2 = true then ((merkhetref02_GetText.f k x0 (wrap64 (x10 + 17))).bind fun bt290 => (if bt290.2 = true then (if 0 < (x8.length : Int) then (if 1 < (x8.length : Int) then (if 2 < (x8.length : Int) then (if 3 < (x8.length : Int) then (if 4 < (x8.length : Int) then (if 5 < (x8.length : Int) then ((merkhetref01_May.f k (rd x8 0) (rd x8 1) (rd x8 2) ((rd x8 3) % 256) bt288.1 bt290.1 (wrap64 (rd x8 4)) (wrap64 (rd x8 5))).bind fun t299 => (if t299 = true then (if x6.length < 1759218604441 then (merkhetref04_Get.l0 k x0 (x6 ++ [(⟨rd x8 0, rd x8 1, rd x8 2, (rd x8 3) % 256, bt288.1, bt290.1, wrap64 (rd x8 4), wrap64 (rd x8 5)⟩ : S77)]) (wrap64 (x7 + 75))) else (none)) else (some (([] : List (S77)), 4)))) else (none)) else (none)) else (none)) else (none)) else (none)) else (none)) else (some (([] : List (S77)), 3)))) else (some (([] : List (S77)), 3))))
end
def merkhetref04_Get.f (k : Nat) (a0 : ByteArray) : Option ((List (S77)) × Int) := if (a0.size : Int) < 6 then (some (([] : List (S77)), 2)) else (if 0 ≤ 4 then (if 4 ≤ (a0.size : Int) then (if (a0.extract 0 4).toList = ([83, 80, 65, 78] : List UInt8) then ((merkhetref02_Get.f k a0 4 2).bind fun bt270 => (if bt270.1 = 0 then (merkhetref04_Get.j0 k a0 bt270.1 true) else (merkhetref04_Get.j0 k a0 bt270.1 (decide (bt270.1 > 32))))) else (some (([] : List (S77)), 3))) else (none)) else (none))
theorem merkhetref04_Get.mono_l : ∀ k, (∀ y0 y1 y2, LeO (merkhetref04_Get.j0 k y0 y1 y2) (merkhetref04_Get.j0 (k + 1) y0 y1 y2)) ∧ (∀ y0 y1 y2, LeO (merkhetref04_Get.l0 k y0 y1 y2) (merkhetref04_Get.l0 (k + 1) y0 y1 y2)) ∧ (∀ y0 y1 y2 y3 y4 y5 y6, LeO (merkhetref04_Get.l1 k y0 y1 y2 y3 y4 y5 y6) (merkhetref04_Get.l1 (k + 1) y0 y1 y2 y3 y4 y5 y6))
  | 0 => ⟨fun _ _ _ r h => by simp [merkhetref04_Get.j0] at h, fun _ _ _ r h => by simp [merkhetref04_Get.l0] at h, fun _ _ _ _ _ _ _ r h => by simp [merkhetref04_Get.l1] at h⟩
  | k + 1 => by
    obtain ⟨ih0, ih1, ih2⟩ := merkhetref04_Get.mono_l k
    refine ⟨?_, ?_, ?_⟩
    · intro y0 y1 y2
      unfold merkhetref04_Get.j0
      repeat' first
      | (with_reducible exact ih0 _ _ _)
      | (with_reducible exact ih1 _ _ _)
      | (with_reducible exact ih2 _ _ _ _ _ _ _)
      | (with_reducible exact merkhetref01_May.mono _ _ _ _ _ _ _ _ _)
      | (with_reducible exact merkhetref02_Get.mono _ _ _ _)
      | (with_reducible exact merkhetref02_GetText.mono _ _ _)
      | (with_reducible exact LeO.refl _)
      | (with_reducible exact LeO.none _)
      | (with_reducible refine LeO.ite ?_ ?_)
      | (with_reducible refine LeO.bind ?_ (fun _ => ?_))
      | exact ih0 _ _ _
      | exact ih1 _ _ _
      | exact ih2 _ _ _ _ _ _ _
      | exact merkhetref01_May.mono _ _ _ _ _ _ _ _ _
      | exact merkhetref02_Get.mono _ _ _ _
      | exact merkhetref02_GetText.mono _ _ _
      | exact LeO.none _
      | refine LeO.ite ?_ ?_
      | refine LeO.bind ?_ (fun _ => ?_)
    · intro y0 y1 y2
      unfold merkhetref04_Get.l0
      repeat' first
      | (with_reducible exact ih0 _ _ _)
      | (with_reducible exact ih1 _ _ _)
      | (with_reducible exact ih2 _ _ _ _ _ _ _)
      | (with_reducible exact merkhetref01_May.mono _ _ _ _ _ _ _ _ _)
      | (with_reducible exact merkhetref02_Get.mono _ _ _ _)
      | (with_reducible exact merkhetref02_GetText.mono _ _ _)
      | (with_reducible exact LeO.refl _)
      | (with_reducible exact LeO.none _)
      | (with_reducible refine LeO.ite ?_ ?_)
      | (with_reducible refine LeO.bind ?_ (fun _ => ?_))
      | exact ih0 _ _ _
      | exact ih1 _ _ _
      | exact ih2 _ _ _ _ _ _ _
      | exact merkhetref01_May.mono _ _ _ _ _ _ _ _ _
      | exact merkhetref02_Get.mono _ _ _ _
      | exact merkhetref02_GetText.mono _ _ _
      | exact LeO.none _
      | refine LeO.ite ?_ ?_
      | refine LeO.bind ?_ (fun _ => ?_)
    · intro y0 y1 y2 y3 y4 y5 y6
      unfold merkhetref04_Get.l1
      repeat' first
      | (with_reducible exact ih0 _ _ _)
      | (with_reducible exact ih1 _ _ _)
      | (with_reducible exact ih2 _ _ _ _ _ _ _)
      | (with_reducible exact merkhetref01_May.mono _ _ _ _ _ _ _ _ _)
      | (with_reducible exact merkhetref02_Get.mono _ _ _ _)
      | (with_reducible exact merkhetref02_GetText.mono _ _ _)
      | (with_reducible exact LeO.refl _)
      | (with_reducible exact LeO.none _)
      | (with_reducible refine LeO.ite ?_ ?_)
      | (with_reducible refine LeO.bind ?_ (fun _ => ?_))
      | exact ih0 _ _ _
      | exact ih1 _ _ _
      | exact ih2 _ _ _ _ _ _ _
      | exact merkhetref01_May.mono _ _ _ _ _ _ _ _ _
      | exact merkhetref02_Get.mono _ _ _ _
      | exact merkhetref02_GetText.mono _ _ _
      | exact LeO.none _
      | refine LeO.ite ?_ ?_
      | refine LeO.bind ?_ (fun _ => ?_)
theorem merkhetref04_Get.mono : ∀ a0 k, LeO (merkhetref04_Get.f k a0) (merkhetref04_Get.f (k + 1) a0) := by
  intro a0 k
  obtain ⟨ih0, ih1, ih2⟩ := merkhetref04_Get.mono_l k
  unfold merkhetref04_Get.f
  repeat' first
      | (with_reducible exact ih0 _ _ _)
      | (with_reducible exact ih1 _ _ _)
      | (with_reducible exact ih2 _ _ _ _ _ _ _)
      | (with_reducible exact merkhetref01_May.mono _ _ _ _ _ _ _ _ _)
      | (with_reducible exact merkhetref02_Get.mono _ _ _ _)
      | (with_reducible exact merkhetref02_GetText.mono _ _ _)
      | (with_reducible exact LeO.refl _)
      | (with_reducible exact LeO.none _)
      | (with_reducible refine LeO.ite ?_ ?_)
      | (with_reducible refine LeO.bind ?_ (fun _ => ?_))
      | exact ih0 _ _ _
      | exact ih1 _ _ _
      | exact ih2 _ _ _ _ _ _ _
      | exact merkhetref01_May.mono _ _ _ _ _ _ _ _ _
      | exact merkhetref02_Get.mono _ _ _ _
      | exact merkhetref02_GetText.mono _ _ _
      | exact LeO.none _
      | refine LeO.ite ?_ ?_
      | refine LeO.bind ?_ (fun _ => ?_)
def merkhetref04_Get.T31 : Bool × List (List Nat × List Nat) := (true, [([], []), ([0], [0]), ([1], [1]), ([], []), ([3], [3]), ([4], [4]), ([], []), ([6], [6]), ([7], [7]), ([], []), ([9], [9]), ([10], [10]), ([11], [11]), ([], []), ([13], [13]), ([14], [14]), ([15], [15]), ([], []), ([17], [17]), ([18], [18]), ([19], [19]), ([], []), ([], []), ([2, 5, 8, 12, 16, 20, 21, 22], [2, 5, 8, 12, 16, 20, 21, 22]), ([], []), ([24, 23, 0, 1, 2, 3, 4, 5, 6, 7, 8, 9, 10, 11, 12, 13, 14, 15, 16, 17, 18, 19, 20, 21, 22, 23, 24], [23, 24])])
def merkhetref04_Get.B31 : List Nat := [0, 1, 3, 0, 8, 24, 0, 64, 192, 0, 512, 1536, 3584, 0, 8192, 24576, 57344, 0, 131072, 393216, 917504, 0, 0, 8388607, 0, 33554431]
theorem merkhetref04_Get.tab31 : rtab .any (opsOf Try.f30 31) = merkhetref04_Get.T31 := by kernel_rfl
theorem merkhetref04_Get.bits31 : waitsOk merkhetref04_Get.T31.2 merkhetref04_Get.B31 = true := by kernel_rfl
set_option maxHeartbeats 8000000 in
set_option maxRecDepth 100000 in
theorem merkhetref04_Get.calls (k : Nat) (a0 : ByteArray) (r1 : List (S77)) (r2 : Int) (w : World) (h : merkhetref04_Get.f k a0 = some (r1, r2)) :
    Calls Try.prog 30 #[.string a0] w fun e w' => ∃ v0_ : Value, e = .returned (.tuple #[v0_, .int .i64 r2]) ∧ Kd.R k77 77 w' w.heap.size (fun _ => True) v0_ r1 ∧ Below w.heap.size w w' := by
  have hu77 := Try.underlying77
  have HB := Aside0.mk (Below.refl w.heap.size w)
  have H : (if (a0.size : Int) < 6 then (some (([] : List (S77)), 2)) else (if 0 ≤ 4 then (if 4 ≤ (a0.size : Int) then (if (a0.extract 0 4).toList = ([83, 80, 65, 78] : List UInt8) then ((merkhetref02_Get.f k a0 4 2).bind fun bt270 => (if bt270.1 = 0 then (merkhetref04_Get.j0 k a0 bt270.1 true) else (merkhetref04_Get.j0 k a0 bt270.1 (decide (bt270.1 > 32))))) else (some (([] : List (S77)), 3))) else (none)) else (none))) = some (r1, r2) := h
  clear h
  by_cases c2 : (a0.size : Int) < 6
  · rw [if_pos c2] at H
    have c2b0 : decide ((a0.size : Int) < 6) = true := decide_eq_true c2
    have c2b1 : decide (a0.size < 6) = true := decide_eq_true (by omega)
    clear c2
    simp only [Option.some.injEq, Prod.mk.injEq] at H
    obtain ⟨rfl, rfl⟩ := H
    go_enter Try.func30, Try.ntmps30
    go_wp2
    go_ret2
    exact ⟨_, by first | rfl | (simp [errW_none, errW_some] <;> rfl) | (simp [*, errW_none, errW_some] <;> rfl), by first | exact Kd.R_nil _ _ _ _ _ | exact Kd.N_nil _ _ _ _ _ | exact Kd.V_nil _ _ _ _ _ | exact Kd.Q_nil _ _ _ _ _ | exact Kd.S_nil _ _ _ _ _, by repeat (first | (with_reducible first | exact HB.out | apply below_alloc | apply pw_below_drewN | apply below_drew1) | exact HB.out)⟩
  · rw [if_neg c2] at H
    have c2b0 : decide ((a0.size : Int) < 6) = false := decide_eq_false c2
    have c2b1 : decide (a0.size < 6) = false := decide_eq_false (by omega)
    clear c2
    by_cases c3 : 0 ≤ 4
    · rw [if_pos c3] at H
      have c3b0 := eq_true c3
      have c3b1 : decide (0 ≤ 4) = true := decide_eq_true c3
      clear c3
      by_cases c4 : 4 ≤ (a0.size : Int)
      · rw [if_pos c4] at H
        have c4b0 := eq_true c4
        have c4b1 : decide (4 ≤ (a0.size : Int)) = true := decide_eq_true c4
        clear c4
        by_cases c5 : (a0.extract 0 4).toList = ([83, 80, 65, 78] : List UInt8)
        · rw [if_pos c5] at H
          have c5b0 : ((a0.extract 0 4).toList == ([83, 80, 65, 78] : List UInt8)) = true := beq_iff_eq.mpr c5
          have c5b1 : ((a0.extract 0 4).toList != ([83, 80, 65, 78] : List UInt8)) = false := bne_eq_false_iff_eq.mpr c5
          clear c5
          replace H := Option.bind_eq_some_iff.mp H
          obtain ⟨⟨t270, t271⟩, A60, H⟩ := H
          replace H : (if t270 = 0 then (merkhetref04_Get.j0 k a0 t270 true) else (merkhetref04_Get.j0 k a0 t270 (decide (t270 > 32)))) = some (r1, r2) := H
          have A6 := Aside0.mk A60
          clear A60
          have HC7 := Aside0.mk H
          clear H
          go_enter Try.func30, Try.ntmps30
          go_upto_region 6 with (first | ((with_reducible refine gate_callee (f := 45) rfl ?_); refine goesL_ (some 26) rfl rfl Try.func45 (by kernel_rfl) rfl #[.string a0, .int .i64 4, .int .i64 2] rfl (by (try simp only [List.map_toArray, List.map_cons, List.map_nil]); first | done | rfl | (simp only [List.length_drop, List.length_take]; rfl)) ?_; (with_reducible refine (merkhetref02_Get.calls k a0 4 2 t270 t271 _ A6.out).mono ?_); rintro e w' ⟨rfl, ⟨nd, rfl⟩⟩; refine ⟨_, rfl, ?_⟩))
          (try simp only [Act.put, List.setIfInBounds_toArray, List.set_cons_zero, List.set_cons_succ])
          go_cut [34] (fun v34 wc => ∃ (kq : Nat) (x34_6 : Bool), v34 = .bool x34_6 ∧ Aside0 (merkhetref04_Get.j0 kq a0 t270 x34_6 = some (r1, r2)) ∧ Aside0 (kq ≤ k) ∧ Aside0 (Below w.heap.size w wc))
          case first =>
            have H := HC7.out
            clear HC7
            by_cases c8 : t270 = 0
            · rw [if_pos c8] at H
              have c8b0 : (t270 == 0) = true := beq_iff_eq.mpr c8
              have c8b1 : (t270 != 0) = false := bne_eq_false_iff_eq.mpr c8
              clear c8
              (first | rw [c8b0] | (simp only [i64_w, i32_w]; rw [c8b0]) | skip)
              have H' := Aside0.mk H
              clear H
              go_wp2
              go_meet
              case rel => exact ⟨_, (true), (by first | rfl | (simp; done) | (simp [*]; done)), H', ⟨by first | omega | exact Nat.le_refl _⟩, ⟨by repeat (first | (with_reducible first | exact HB.out | apply below_alloc | apply pw_below_drewN | apply below_drew1) | exact HB.out)⟩⟩
            · rw [if_neg c8] at H
              have c8b0 : (t270 == 0) = false := beq_eq_false_iff_ne.mpr c8
              have c8b1 : (t270 != 0) = true := bne_iff_ne.mpr c8
              (first | rw [c8b0] | (simp only [i64_w, i32_w]; rw [c8b0]) | skip)
              have H' := Aside0.mk H
              clear H
              go_wp2
              go_meet
              case rel => exact ⟨_, (decide (t270 > 32)), (by first | rfl | (simp; done) | (simp [*]; done)), H', ⟨by first | omega | exact Nat.le_refl _⟩, ⟨by repeat (first | (with_reducible first | exact HB.out | apply below_alloc | apply pw_below_drewN | apply below_drew1) | exact HB.out)⟩⟩
          case rest =>
            clear HC7
            try clear c2
            try clear c2b0
            try clear c2b1
            try clear p2
            try clear c3
            try clear c3b0
            try clear c3b1
            try clear c4
            try clear c4b0
            try clear c4b1
            try clear c5
            try clear c5b0
            try clear c5b1
            try clear c8
            try clear c8b0
            try clear c8b1
            obtain ⟨kq, x34_6, rfl, HA, HJ6, HB⟩ := hcut
            cases kq with
            | zero => exact absurd HA.out (by simp [merkhetref04_Get.j0])
            | succ kj6 =>
              have H := HA.out
              clear HA
              simp only [merkhetref04_Get.j0] at H
              by_cases c9 : x34_6 = true
              · subst c9
                have H1 : (some (([] : List (S77)), 3)) = some (r1, r2) := by rw [if_pos rfl] at H; exact H
                clear H
                have H := H1
                clear H1
                simp only [Option.some.injEq, Prod.mk.injEq] at H
                obtain ⟨rfl, rfl⟩ := H
                go_wp2
                go_ret2
                exact ⟨_, by first | rfl | (simp [errW_none, errW_some] <;> rfl) | (simp [*, errW_none, errW_some] <;> rfl), by first | exact Kd.R_nil _ _ _ _ _ | exact Kd.N_nil _ _ _ _ _ | exact Kd.V_nil _ _ _ _ _ | exact Kd.Q_nil _ _ _ _ _ | exact Kd.S_nil _ _ _ _ _, by repeat (first | (with_reducible first | exact HB.out | apply below_alloc | apply pw_below_drewN | apply below_drew1) | exact HB.out)⟩
              · replace c9 := Bool.eq_false_iff.mpr c9
                subst c9
                have H1 : (if (a0.size : Int) < (wrap64 (6 + (wrap64 (75 * (wrap64 (t270)))))) then (some (([] : List (S77)), 2)) else (if (a0.size : Int) > (wrap64 (6 + (wrap64 (75 * (wrap64 (t270)))))) then (some (([] : List (S77)), 3)) else (merkhetref04_Get.l0 kj6 a0 (([] : List (S77))) 6))) = some (r1, r2) := by rw [if_neg (show ¬ (false = true) by decide)] at H; exact H
                clear H
                have H := H1
                clear H1
                by_cases c10 : (a0.size : Int) < (wrap64 (6 + (wrap64 (75 * (wrap64 (t270))))))
                · rw [if_pos c10] at H
                  have c10b0 : decide ((a0.size : Int) < (wrap64 (6 + (wrap64 (75 * (wrap64 (t270))))))) = true := decide_eq_true c10
                  clear c10
                  simp only [Option.some.injEq, Prod.mk.injEq] at H
                  obtain ⟨rfl, rfl⟩ := H
                  go_wp2
                  go_ret2
                  exact ⟨_, by first | rfl | (simp [errW_none, errW_some] <;> rfl) | (simp [*, errW_none, errW_some] <;> rfl), by first | exact Kd.R_nil _ _ _ _ _ | exact Kd.N_nil _ _ _ _ _ | exact Kd.V_nil _ _ _ _ _ | exact Kd.Q_nil _ _ _ _ _ | exact Kd.S_nil _ _ _ _ _, by repeat (first | (with_reducible first | exact HB.out | apply below_alloc | apply pw_below_drewN | apply below_drew1) | exact HB.out)⟩
                · rw [if_neg c10] at H
                  have c10b0 : decide ((a0.size : Int) < (wrap64 (6 + (wrap64 (75 * (wrap64 (t270))))))) = false := decide_eq_false c10
                  clear c10
                  by_cases c11 : (a0.size : Int) > (wrap64 (6 + (wrap64 (75 * (wrap64 (t270))))))
                  · rw [if_pos c11] at H
                    have c11b0 : decide ((wrap64 (6 + (wrap64 (75 * (wrap64 (t270)))))) < (a0.size : Int)) = true := decide_eq_true c11
                    clear c11
                    simp only [Option.some.injEq, Prod.mk.injEq] at H
                    obtain ⟨rfl, rfl⟩ := H
                    go_wp2
                    go_ret2
                    exact ⟨_, by first | rfl | (simp [errW_none, errW_some] <;> rfl) | (simp [*, errW_none, errW_some] <;> rfl), by first | exact Kd.R_nil _ _ _ _ _ | exact Kd.N_nil _ _ _ _ _ | exact Kd.V_nil _ _ _ _ _ | exact Kd.Q_nil _ _ _ _ _ | exact Kd.S_nil _ _ _ _ _, by repeat (first | (with_reducible first | exact HB.out | apply below_alloc | apply pw_below_drewN | apply below_drew1) | exact HB.out)⟩
                  · rw [if_neg c11] at H
                    have c11b0 : decide ((wrap64 (6 + (wrap64 (75 * (wrap64 (t270)))))) < (a0.size : Int)) = false := decide_eq_false c11
                    clear c11
                    obtain ⟨y272, hy272⟩ : ∃ y_ : List (S77), y_ = (([] : List (S77))) := ⟨_, rfl⟩
                    replace H : (merkhetref04_Get.l0 kj6 a0 y272 6) = some (r1, r2) := by first | (rw [hy272]; with_reducible exact H) | (have H2_ := (Option.bind_some _ _).symm.trans H; rw [hy272]; with_reducible exact H2_) | (have H2_ := (Option.bind_some _ _).symm.trans H; with_reducible exact H2_) | with_reducible exact H | (rw [hy272]; exact H) | exact H
                    have Ny272 := Aside0.mk hy272
                    clear hy272
                    have H' := Aside0.mk H
                    clear H
                    go_wp2_with (first | ((with_reducible refine gate_dst (N := 49) rfl ?_); refine Kd.R_lit k77 _ 77 ?hg (N := 49) ?hd (xs := ([] : List (S77))) (inner := []) (ok := fun _ => True) (okp := fun _ => True) ?hr ?hp (fun _ hk => hk) trivial (Below.refl _ _) (Nat.le_refl _) (by simp) ?_; (case hd => rfl); (case hg => rfl); (case hr => first | (go_simp; done) | (go_simp; rfl)); (case hp => exact (Reps.none _ _)); intro v273 w12 ho13 hb hg_ hnew_; clear hg_ hnew_; (first | rw [← Ny272.out] at ho13 | (simp only [Int.reduceToNat] at ho13; rw [← Ny272.out] at ho13)); have n0_ := Aside0.mk (Kd.R_lower ho13 (below_size (by repeat (first | (with_reducible first | exact HB.out | apply below_alloc | apply pw_below_drewN | apply below_drew1) | exact HB.out)))); have n1_ := Aside0.mk (below_step (by repeat (first | (with_reducible first | exact HB.out | apply below_alloc | apply pw_below_drewN | apply below_drew1) | exact HB.out)) hb); clear HB; have HO274 := n0_; have HB := n1_; clear n0_ n1_; clear hb ho13))
                    go_loopg [6, 7] kj6 (fun kq v6 v7 w' => ∃ (x6_2 : List (S77)) (x7_2 : Int), v7 = .int .i64 x7_2 ∧ Aside0 (merkhetref04_Get.l0 kq a0 x6_2 x7_2 = some (r1, r2)) ∧ Aside0 (kq ≤ kj6) ∧ Aside0 (Kd.R k77 77 w' w.heap.size (fun _ => True) v6 x6_2) ∧ Aside0 (Below w.heap.size w w'))
                    case atStart => exact ⟨(y272), (6), (by first | rfl | (simp; done) | (simp [*]; done)), H', ⟨Nat.le_refl _⟩, ⟨by (with_reducible repeat (first | apply Kd.R_alloc | apply Kd.R_drewN | apply Kd.R_drew)); exact HO274.out⟩, ⟨by repeat (first | (with_reducible first | exact HB.out | apply below_alloc | apply pw_below_drewN | apply below_drew1) | exact HB.out)⟩⟩
                    case round =>
                      clear H'
                      try clear c1
                      try clear c2
                      try clear c2b0
                      try clear c2b1
                      try clear p2
                      try clear c3
                      try clear c3b0
                      try clear c3b1
                      try clear c4
                      try clear c4b0
                      try clear c4b1
                      try clear c5
                      try clear c5b0
                      try clear c5b1
                      try clear p6
                      try clear c8
                      try clear c8b0
                      try clear c8b1
                      try clear c9
                      try clear c10
                      try clear c10b0
                      try clear c11
                      try clear c11b0
                      try clear p2
                      obtain ⟨x6_2, x7_2, rfl, HA, HK2, HO_6, HB⟩ := hrel
                      cases gk with
                      | zero => exact absurd HA.out (by simp [merkhetref04_Get.l0])
                      | succ k2 =>
                        have H := HA.out
                        clear HA
                        simp only [merkhetref04_Get.l0] at H
                        by_cases c14 : x7_2 < (a0.size : Int)
                        · rw [if_pos c14] at H
                          have c14b0 : decide (x7_2 < (a0.size : Int)) = true := decide_eq_true c14
                          clear c14
                          obtain ⟨y275, hy275⟩ : ∃ y_ : List Int, y_ = (([] : List Int)) := ⟨_, rfl⟩
                          replace H : (merkhetref04_Get.l1 k2 a0 x6_2 x7_2 y275 (([8, 8, 8, 1, 8, 8] : List Int)) x7_2 0) = some (r1, r2) := by first | (rw [hy275]; with_reducible exact H) | (have H2_ := (Option.bind_some _ _).symm.trans H; rw [hy275]; with_reducible exact H2_) | (have H2_ := (Option.bind_some _ _).symm.trans H; with_reducible exact H2_) | with_reducible exact H | (rw [hy275]; exact H) | exact H
                          have Ny275 := Aside0.mk hy275
                          clear hy275
                          obtain ⟨y278, hy278⟩ : ∃ y_ : List Int, y_ = (([8, 8, 8, 1, 8, 8] : List Int)) := ⟨_, rfl⟩
                          replace H : (merkhetref04_Get.l1 k2 a0 x6_2 x7_2 y275 y278 x7_2 0) = some (r1, r2) := by first | (rw [hy278]; with_reducible exact H) | (have H2_ := (Option.bind_some _ _).symm.trans H; rw [hy278]; with_reducible exact H2_) | (have H2_ := (Option.bind_some _ _).symm.trans H; with_reducible exact H2_) | with_reducible exact H | (rw [hy278]; exact H) | exact H
                          have Ny278 := Aside0.mk hy278
                          clear hy278
                          have H' := Aside0.mk H
                          clear H
                          go_wp2_with (first | ((with_reducible refine gate_dst (N := 56) rfl ?_); refine Kd.R_lit (Kd.int .u64) _ 75 ?hg (N := 56) ?hd (xs := ([] : List Int)) (inner := []) (ok := fun _ => True) (okp := fun _ => True) ?hr ?hp (fun _ hk => hk) trivial (Below.refl _ _) (Nat.le_refl _) (by simp) ?_; (case hd => rfl); (case hg => rfl); (case hr => first | (go_simp; done) | (go_simp; rfl)); (case hp => exact (Reps.none _ _)); intro v276 w15 ho16 hb hg_ hnew_; clear hg_ hnew_; (first | rw [← Ny275.out] at ho16 | (simp only [Int.reduceToNat] at ho16; rw [← Ny275.out] at ho16)); have n0_ := Aside0.mk (Kd.R_below (by (with_reducible repeat (first | apply Kd.R_alloc | apply Kd.R_drewN | apply Kd.R_drew)); exact HO_6.out) hb); have n1_ := Aside0.mk (Kd.R_lower ho16 (below_size (by repeat (first | (with_reducible first | exact HB.out | apply below_alloc | apply pw_below_drewN | apply below_drew1) | exact HB.out)))); have n2_ := Aside0.mk (below_step (by repeat (first | (with_reducible first | exact HB.out | apply below_alloc | apply pw_below_drewN | apply below_drew1) | exact HB.out)) hb); clear HO_6; clear HB; have HO_6 := n0_; have HO277 := n1_; have HB := n2_; clear n0_ n1_ n2_; clear hb ho16) | ((with_reducible refine gate_dst (N := 57) rfl ?_); refine Kd.R_lit (Kd.int .i64) _ 3 ?hg (N := 57) ?hd (xs := ([8, 8, 8, 1, 8, 8] : List Int)) (inner := [.int .i64 8, .int .i64 8, .int .i64 8, .int .i64 1, .int .i64 8, .int .i64 8]) (ok := fun _ => True) (okp := fun _ => True) ?hr ?hp (fun _ hk => hk) trivial (Below.refl _ _) (Nat.le_refl _) (by simp) ?_; (case hd => rfl); (case hg => rfl); (case hr => first | (go_simp; done) | (go_simp; rfl)); (case hp => exact (Reps.one (show Kd.M (Kd.int .i64) _ _ _ 8 [.int .i64 8] from rfl) (Reps.one (show Kd.M (Kd.int .i64) _ _ _ 8 [.int .i64 8] from rfl) (Reps.one (show Kd.M (Kd.int .i64) _ _ _ 8 [.int .i64 8] from rfl) (Reps.one (show Kd.M (Kd.int .i64) _ _ _ 1 [.int .i64 1] from rfl) (Reps.one (show Kd.M (Kd.int .i64) _ _ _ 8 [.int .i64 8] from rfl) (Reps.one (show Kd.M (Kd.int .i64) _ _ _ 8 [.int .i64 8] from rfl) (Reps.none _ _)))))))); intro v279 w17 ho18 hb hg_ hnew_; clear hg_ hnew_; (first | rw [← Ny278.out] at ho18 | (simp only [Int.reduceToNat] at ho18; rw [← Ny278.out] at ho18)); have n0_ := Aside0.mk (Kd.R_below (by (with_reducible repeat (first | apply Kd.R_alloc | apply Kd.R_drewN | apply Kd.R_drew)); exact HO_6.out) hb); have n1_ := Aside0.mk (Kd.R_below (by (with_reducible repeat (first | apply Kd.R_alloc | apply Kd.R_drewN | apply Kd.R_drew)); exact HO277.out) hb); have n2_ := Aside0.mk (Kd.R_lower ho18 (below_size (by repeat (first | (with_reducible first | exact HB.out | apply below_alloc | apply pw_below_drewN | apply below_drew1) | exact HB.out)))); have n3_ := Aside0.mk (below_step (by repeat (first | (with_reducible first | exact HB.out | apply below_alloc | apply pw_below_drewN | apply below_drew1) | exact HB.out)) hb); clear HO_6; clear HO277; clear HB; have HO_6 := n0_; have HO277 := n1_; have HO280 := n2_; have HB := n3_; clear n0_ n1_ n2_ n3_; clear hb ho18))
                          go_loopg [8, 10, 11] k2 (fun kq v8 v10 v11 w' => ∃ (x8_3 : List Int) (x10_3 : Int) (x11_3 : Int), v10 = .int .i64 x10_3 ∧ v11 = .int .i64 x11_3 ∧ Aside0 (merkhetref04_Get.l1 kq a0 x6_2 x7_2 x8_3 y278 x10_3 x11_3 = some (r1, r2)) ∧ Aside0 (kq ≤ k2) ∧ Aside0 (Kd.R k77 77 w' w.heap.size (fun _ => True) u6 x6_2) ∧ Aside0 (Kd.R (Kd.int .u64) 75 w' w.heap.size (fun _ => True) v8 x8_3) ∧ Aside0 (Kd.R (Kd.int .i64) 3 w' w.heap.size (fun _ => True) v279 y278) ∧ Aside0 (Below w.heap.size w w'))
                          case atStart => exact ⟨(y275), (x7_2), (0), (by first | rfl | (simp; done) | (simp [*]; done)), (by first | rfl | (simp; done) | (simp [*]; done)), H', ⟨Nat.le_refl _⟩, ⟨by (with_reducible repeat (first | apply Kd.R_alloc | apply Kd.R_drewN | apply Kd.R_drew)); exact HO_6.out⟩, ⟨by (with_reducible repeat (first | apply Kd.R_alloc | apply Kd.R_drewN | apply Kd.R_drew)); exact HO277.out⟩, ⟨by (with_reducible repeat (first | apply Kd.R_alloc | apply Kd.R_drewN | apply Kd.R_drew)); exact HO280.out⟩, ⟨by repeat (first | (with_reducible first | exact HB.out | apply below_alloc | apply pw_below_drewN | apply below_drew1) | exact HB.out)⟩⟩
                          case round =>
                            clear H'
                            try clear c1
                            try clear c2
                            try clear c2b0
                            try clear c2b1
                            try clear p2
                            try clear c3
                            try clear c3b0
                            try clear c3b1
                            try clear c4
                            try clear c4b0
                            try clear c4b1
                            try clear c5
                            try clear c5b0
                            try clear c5b1
                            try clear p6
                            try clear c8
                            try clear c8b0
                            try clear c8b1
                            try clear c9
                            try clear c10
                            try clear c10b0
                            try clear c11
                            try clear c11b0
                            try clear c14
                            try clear c14b0
                            try clear p2
                            try clear p6
                            obtain ⟨x8_3, x10_3, x11_3, rfl, rfl, HA, HK3, HO_6, HO_8, HO_9, HB⟩ := hrel
                            cases gk with
                            | zero => exact absurd HA.out (by simp [merkhetref04_Get.l1])
                            | succ k3 =>
                              have H := HA.out
                              clear HA
                              simp only [merkhetref04_Get.l1] at H
                              by_cases c19 : x11_3 < (y278.length : Int)
                              · rw [if_pos c19] at H
                                have c19b0 : decide (x11_3 < (y278.length : Int)) = true := decide_eq_true c19
                                clear c19
                                by_cases c20 : 0 ≤ x11_3
                                · rw [if_pos c20] at H
                                  have c20b0 : decide (0 ≤ x11_3) = true := decide_eq_true c20
                                  clear c20
                                  replace H := Option.bind_eq_some_iff.mp H
                                  obtain ⟨⟨t282, t283⟩, A210, H⟩ := H
                                  replace H : (if x8_3.length < 17592186044416 then (merkhetref04_Get.l1 k3 a0 x6_2 x7_2 (x8_3 ++ [t282]) y278 (wrap64 (x10_3 + (rd y278 x11_3))) (wrap64 (x11_3 + 1))) else (none)) = some (r1, r2) := H
                                  have A21 := Aside0.mk A210
                                  clear A210
                                  by_cases c22 : x8_3.length < 17592186044416
                                  · rw [if_pos c22] at H
                                    have LMc22 := Aside0.mk c22
                                    clear c22
                                    obtain ⟨y284, hy284⟩ : ∃ y_ : List Int, y_ = (x8_3 ++ [t282]) := ⟨_, rfl⟩
                                    replace H : (merkhetref04_Get.l1 k3 a0 x6_2 x7_2 y284 y278 (wrap64 (x10_3 + (rd y278 x11_3))) (wrap64 (x11_3 + 1))) = some (r1, r2) := by first | (rw [hy284]; with_reducible exact H) | (have H2_ := (Option.bind_some _ _).symm.trans H; rw [hy284]; with_reducible exact H2_) | (have H2_ := (Option.bind_some _ _).symm.trans H; with_reducible exact H2_) | with_reducible exact H | (rw [hy284]; exact H) | exact H
                                    have Ny284 := Aside0.mk hy284
                                    clear hy284
                                    have H' := Aside0.mk H
                                    clear H
                                    obtain ⟨Ao23, co23, eo23⟩ := Kd.R_slice HO_9.out
                                    subst eo23
                                    have p281 : 0 ≤ (x11_3 : Int) := of_decide_eq_true (by first | (with_reducible assumption) | assumption)
                                    have q281 : x11_3 < (y278.length : Int) := of_decide_eq_true (by first | (with_reducible assumption) | assumption)
                                    obtain ⟨ad281, e281, hx281_0⟩ := Kd.at_int (Kd.R_reads' HO_9.out).2.2 x11_3 p281 q281
                                    cases e281
                                    replace p281 := eq_true p281
                                    replace q281 := eq_true q281
                                    go_wp2_with (first | ((with_reducible refine gate_callee (f := 45) rfl ?_); refine goesL_ (some 72) rfl rfl Try.func45 (by kernel_rfl) rfl #[.string a0, .int .i64 x10_3, .int .i64 (rd y278 x11_3)] rfl (by (try simp only [List.map_toArray, List.map_cons, List.map_nil]); first | done | rfl | (simp only [List.length_drop, List.length_take]; rfl)) ?_; (with_reducible refine (merkhetref02_Get.calls k3 a0 x10_3 (rd y278 x11_3) t282 t283 _ A21.out).mono ?_); rintro e w' ⟨rfl, ⟨nd, rfl⟩⟩; refine ⟨_, rfl, ?_⟩) | ((with_reducible refine gate_builtin (b := .append) (xs := #[.tmp 75, .tmp 77]) rfl ?_); at_builtin; refine Kd.R_append (Kd.int .u64) (w0 := w) w.heap.size rfl (.tmp 75) (.tmp 77) 95 75 (.int .u64 0) 8 rfl Try.underlying95 info75 rfl (by decide) (by omega) u8 x8_3 t282 [.int .u64 t282] (fun _ => True) (fun _ => False) rfl rfl ?aP (fun _ hk => hk.elim) ?aF ?aO ?aB ?aS ?aL ?_; (case aP => exact rfl); (case aB => exact (by repeat (first | (with_reducible first | exact HB.out | apply below_alloc | apply pw_below_drewN | apply below_drew1) | exact HB.out))); (case aF => exact (fun _ _ => trivial)); (case aO => exact (by (with_reducible repeat (first | apply Kd.R_alloc | apply Kd.R_drewN | apply Kd.R_drew)); exact HO_8.out)); (case aS => exact (below_size (by repeat (first | (with_reducible first | exact HB.out | apply below_alloc | apply pw_below_drewN | apply below_drew1) | exact HB.out)))); (case aL => have := LMc22.out; omega); intro v285 w24 ho hb hg hat; rw [← Ny284.out] at ho; have n0_ := Aside0.mk (Kd.R_over' (by (with_reducible repeat (first | apply Kd.R_alloc | apply Kd.R_drewN | apply Kd.R_drew)); exact HO_6.out) (Kd.R_typed (by (with_reducible repeat (first | apply Kd.R_alloc | apply Kd.R_drewN | apply Kd.R_drew)); exact HO_8.out)) (by decide) hg); have n1_ := Aside0.mk (Kd.R_over' (by (with_reducible repeat (first | apply Kd.R_alloc | apply Kd.R_drewN | apply Kd.R_drew)); exact HO_9.out) (Kd.R_typed (by (with_reducible repeat (first | apply Kd.R_alloc | apply Kd.R_drewN | apply Kd.R_drew)); exact HO_8.out)) (by decide) hg); have n2_ := Aside0.mk (hb); have n3_ := Aside0.mk (ho); clear HO_6; clear HO_9; clear HB; clear HO_8; have HO_6 := n0_; have HO_9 := n1_; have HB := n2_; have HO286 := n3_; clear n0_ n1_ n2_ n3_; clear ho hb hg hat; have p287 : 0 ≤ (x11_3 : Int) := of_decide_eq_true (by first | (with_reducible assumption) | assumption); have q287 : x11_3 < (y278.length : Int) := of_decide_eq_true (by first | (with_reducible assumption) | assumption); obtain ⟨ad287, e287, hx287_0⟩ := Kd.at_int (Kd.R_reads' HO_9.out).2.2 x11_3 p287 q287; obtain rfl : ad281 = ad287 := (by injection e287); replace p287 := eq_true p287; replace q287 := eq_true q287))
                                    go_roundg k3
                                    case measure => have := HJ6.out; have := HK2.out; have := HK3.out; omega
                                    case rel => exact ⟨(y284), (wrap64 (x10_3 + (rd y278 x11_3))), (wrap64 (x11_3 + 1)), (by first | rfl | (simp; done) | (simp [*]; done)), (by first | rfl | (simp; done) | (simp [*]; done)), H', ⟨by have := HJ6.out; have := HK2.out; have := HK3.out; omega⟩, ⟨by (with_reducible repeat (first | apply Kd.R_alloc | apply Kd.R_drewN | apply Kd.R_drew)); exact HO_6.out⟩, ⟨by (with_reducible repeat (first | apply Kd.R_alloc | apply Kd.R_drewN | apply Kd.R_drew)); exact HO286.out⟩, ⟨by (with_reducible repeat (first | apply Kd.R_alloc | apply Kd.R_drewN | apply Kd.R_drew)); exact HO_9.out⟩, ⟨by repeat (first | (with_reducible first | exact HB.out | apply below_alloc | apply pw_below_drewN | apply below_drew1) | exact HB.out)⟩⟩
                                  · rw [if_neg c22] at H
                                    exact absurd H (by simp)
                                · rw [if_neg c20] at H
                                  exact absurd H (by simp)
                              · rw [if_neg c19] at H
                                have c19b0 : decide (x11_3 < (y278.length : Int)) = false := decide_eq_false c19
                                clear c19
                                replace H := Option.bind_eq_some_iff.mp H
                                obtain ⟨⟨t288, t289⟩, A250, H⟩ := H
                                replace H : (if t289 = true then ((merkhetref02_GetText.f k3 a0 (wrap64 (x10_3 + 17))).bind fun bt290 => (if bt290.2 = true then (if 0 < (x8_3.length : Int) then (if 1 < (x8_3.length : Int) then (if 2 < (x8_3.length : Int) then (if 3 < (x8_3.length : Int) then (if 4 < (x8_3.length : Int) then (if 5 < (x8_3.length : Int) then ((merkhetref01_May.f k3 (rd x8_3 0) (rd x8_3 1) (rd x8_3 2) ((rd x8_3 3) % 256) t288 bt290.1 (wrap64 (rd x8_3 4)) (wrap64 (rd x8_3 5))).bind fun t299 => (if t299 = true then (if x6_2.length < 1759218604441 then (merkhetref04_Get.l0 k3 a0 (x6_2 ++ [(⟨rd x8_3 0, rd x8_3 1, rd x8_3 2, (rd x8_3 3) % 256, t288, bt290.1, wrap64 (rd x8_3 4), wrap64 (rd x8_3 5)⟩ : S77)]) (wrap64 (x7_2 + 75))) else (none)) else (some (([] : List (S77)), 4)))) else (none)) else (none)) else (none)) else (none)) else (none)) else (none)) else (some (([] : List (S77)), 3)))) else (some (([] : List (S77)), 3))) = some (r1, r2) := H
                                have A25 := Aside0.mk A250
                                clear A250
                                by_cases c26 : t289 = true
                                · subst c26
                                  have H1 : ((merkhetref02_GetText.f k3 a0 (wrap64 (x10_3 + 17))).bind fun bt290 => (if bt290.2 = true then (if 0 < (x8_3.length : Int) then (if 1 < (x8_3.length : Int) then (if 2 < (x8_3.length : Int) then (if 3 < (x8_3.length : Int) then (if 4 < (x8_3.length : Int) then (if 5 < (x8_3.length : Int) then ((merkhetref01_May.f k3 (rd x8_3 0) (rd x8_3 1) (rd x8_3 2) ((rd x8_3 3) % 256) t288 bt290.1 (wrap64 (rd x8_3 4)) (wrap64 (rd x8_3 5))).bind fun t299 => (if t299 = true then (if x6_2.length < 1759218604441 then (merkhetref04_Get.l0 k3 a0 (x6_2 ++ [(⟨rd x8_3 0, rd x8_3 1, rd x8_3 2, (rd x8_3 3) % 256, t288, bt290.1, wrap64 (rd x8_3 4), wrap64 (rd x8_3 5)⟩ : S77)]) (wrap64 (x7_2 + 75))) else (none)) else (some (([] : List (S77)), 4)))) else (none)) else (none)) else (none)) else (none)) else (none)) else (none)) else (some (([] : List (S77)), 3)))) = some (r1, r2) := by rw [if_pos rfl] at H; exact H
                                  clear H
                                  have H := H1
                                  clear H1
                                  replace H := Option.bind_eq_some_iff.mp H
                                  obtain ⟨⟨t290, t291⟩, A270, H⟩ := H
                                  replace H : (if t291 = true then (if 0 < (x8_3.length : Int) then (if 1 < (x8_3.length : Int) then (if 2 < (x8_3.length : Int) then (if 3 < (x8_3.length : Int) then (if 4 < (x8_3.length : Int) then (if 5 < (x8_3.length : Int) then ((merkhetref01_May.f k3 (rd x8_3 0) (rd x8_3 1) (rd x8_3 2) ((rd x8_3 3) % 256) t288 t290 (wrap64 (rd x8_3 4)) (wrap64 (rd x8_3 5))).bind fun t299 => (if t299 = true then (if x6_2.length < 1759218604441 then (merkhetref04_Get.l0 k3 a0 (x6_2 ++ [(⟨rd x8_3 0, rd x8_3 1, rd x8_3 2, (rd x8_3 3) % 256, t288, t290, wrap64 (rd x8_3 4), wrap64 (rd x8_3 5)⟩ : S77)]) (wrap64 (x7_2 + 75))) else (none)) else (some (([] : List (S77)), 4)))) else (none)) else (none)) else (none)) else (none)) else (none)) else (none)) else (some (([] : List (S77)), 3))) = some (r1, r2) := H
                                  have A27 := Aside0.mk A270
                                  clear A270
                                  by_cases c28 : t291 = true
                                  · subst c28
                                    have H1 : (if 0 < (x8_3.length : Int) then (if 1 < (x8_3.length : Int) then (if 2 < (x8_3.length : Int) then (if 3 < (x8_3.length : Int) then (if 4 < (x8_3.length : Int) then (if 5 < (x8_3.length : Int) then ((merkhetref01_May.f k3 (rd x8_3 0) (rd x8_3 1) (rd x8_3 2) ((rd x8_3 3) % 256) t288 t290 (wrap64 (rd x8_3 4)) (wrap64 (rd x8_3 5))).bind fun t299 => (if t299 = true then (if x6_2.length < 1759218604441 then (merkhetref04_Get.l0 k3 a0 (x6_2 ++ [(⟨rd x8_3 0, rd x8_3 1, rd x8_3 2, (rd x8_3 3) % 256, t288, t290, wrap64 (rd x8_3 4), wrap64 (rd x8_3 5)⟩ : S77)]) (wrap64 (x7_2 + 75))) else (none)) else (some (([] : List (S77)), 4)))) else (none)) else (none)) else (none)) else (none)) else (none)) else (none)) = some (r1, r2) := by rw [if_pos rfl] at H; exact H
                                    clear H
                                    have H := H1
                                    clear H1
                                    by_cases c29 : 0 < (x8_3.length : Int)
                                    · rw [if_pos c29] at H
                                      have c29b0 : decide (0 < (x8_3.length : Int)) = true := decide_eq_true c29
                                      have c29b1 : decide (0 < x8_3.length) = true := decide_eq_true (by omega)
                                      clear c29
                                      by_cases c30 : 1 < (x8_3.length : Int)
                                      · rw [if_pos c30] at H
                                        have c30b0 : decide (1 < (x8_3.length : Int)) = true := decide_eq_true c30
                                        have c30b1 : decide (1 < x8_3.length) = true := decide_eq_true (by omega)
                                        clear c30
                                        by_cases c31 : 2 < (x8_3.length : Int)
                                        · rw [if_pos c31] at H
                                          have c31b0 : decide (2 < (x8_3.length : Int)) = true := decide_eq_true c31
                                          have c31b1 : decide (2 < x8_3.length) = true := decide_eq_true (by omega)
                                          clear c31
                                          by_cases c32 : 3 < (x8_3.length : Int)
                                          · rw [if_pos c32] at H
                                            have c32b0 : decide (3 < (x8_3.length : Int)) = true := decide_eq_true c32
                                            have c32b1 : decide (3 < x8_3.length) = true := decide_eq_true (by omega)
                                            clear c32
                                            by_cases c33 : 4 < (x8_3.length : Int)
                                            · rw [if_pos c33] at H
                                              have c33b0 : decide (4 < (x8_3.length : Int)) = true := decide_eq_true c33
                                              have c33b1 : decide (4 < x8_3.length) = true := decide_eq_true (by omega)
                                              clear c33
                                              by_cases c34 : 5 < (x8_3.length : Int)
                                              · rw [if_pos c34] at H
                                                have c34b0 : decide (5 < (x8_3.length : Int)) = true := decide_eq_true c34
                                                have c34b1 : decide (5 < x8_3.length) = true := decide_eq_true (by omega)
                                                clear c34
                                                replace H := Option.bind_eq_some_iff.mp H
                                                obtain ⟨t299, A350, H⟩ := H
                                                replace H : (if t299 = true then (if x6_2.length < 1759218604441 then (merkhetref04_Get.l0 k3 a0 (x6_2 ++ [(⟨rd x8_3 0, rd x8_3 1, rd x8_3 2, (rd x8_3 3) % 256, t288, t290, wrap64 (rd x8_3 4), wrap64 (rd x8_3 5)⟩ : S77)]) (wrap64 (x7_2 + 75))) else (none)) else (some (([] : List (S77)), 4))) = some (r1, r2) := H
                                                have A35 := Aside0.mk A350
                                                clear A350
                                                by_cases c36 : t299 = true
                                                · subst c36
                                                  have H1 : (if x6_2.length < 1759218604441 then (merkhetref04_Get.l0 k3 a0 (x6_2 ++ [(⟨rd x8_3 0, rd x8_3 1, rd x8_3 2, (rd x8_3 3) % 256, t288, t290, wrap64 (rd x8_3 4), wrap64 (rd x8_3 5)⟩ : S77)]) (wrap64 (x7_2 + 75))) else (none)) = some (r1, r2) := by rw [if_pos rfl] at H; exact H
                                                  clear H
                                                  have H := H1
                                                  clear H1
                                                  by_cases c37 : x6_2.length < 1759218604441
                                                  · rw [if_pos c37] at H
                                                    have LMc37 := Aside0.mk c37
                                                    clear c37
                                                    obtain ⟨y300, hy300⟩ : ∃ y_ : List (S77), y_ = (x6_2 ++ [(⟨rd x8_3 0, rd x8_3 1, rd x8_3 2, (rd x8_3 3) % 256, t288, t290, wrap64 (rd x8_3 4), wrap64 (rd x8_3 5)⟩ : S77)]) := ⟨_, rfl⟩
                                                    replace H : (merkhetref04_Get.l0 k3 a0 y300 (wrap64 (x7_2 + 75))) = some (r1, r2) := by first | (rw [hy300]; with_reducible exact H) | (have H2_ := (Option.bind_some _ _).symm.trans H; rw [hy300]; with_reducible exact H2_) | (have H2_ := (Option.bind_some _ _).symm.trans H; with_reducible exact H2_) | with_reducible exact H | (rw [hy300]; exact H) | exact H
                                                    have Ny300 := Aside0.mk hy300
                                                    clear hy300
                                                    have H' := Aside0.mk H
                                                    clear H
                                                    obtain ⟨Ao38, co38, eo38⟩ := Kd.R_slice HO_9.out
                                                    subst eo38
                                                    try go_wp2_with (first | ((with_reducible refine gate_callee (f := 50) rfl ?_); refine goesL_ (some 88) rfl rfl Try.func50 (by kernel_rfl) rfl #[.string a0, .int .i64 x10_3] rfl (by (try simp only [List.map_toArray, List.map_cons, List.map_nil]); first | done | rfl | (simp only [List.length_drop, List.length_take]; rfl)) ?_; (with_reducible refine (merkhetref02_GetText.calls k3 a0 x10_3 t288 true _ A25.out).mono ?_); rintro e w39 ⟨rfl, hb⟩; refine ⟨_, rfl, ?_⟩; have n0_ := Aside0.mk (Kd.R_below (by (with_reducible repeat (first | apply Kd.R_alloc | apply Kd.R_drewN | apply Kd.R_drew)); exact HO_6.out) hb); have n1_ := Aside0.mk (Kd.R_below (by (with_reducible repeat (first | apply Kd.R_alloc | apply Kd.R_drewN | apply Kd.R_drew)); exact HO_8.out) hb); have n2_ := Aside0.mk (Kd.R_below (by (with_reducible repeat (first | apply Kd.R_alloc | apply Kd.R_drewN | apply Kd.R_drew)); exact HO_9.out) hb); have n3_ := Aside0.mk (below_step (by repeat (first | (with_reducible first | exact HB.out | apply below_alloc | apply pw_below_drewN | apply below_drew1) | exact HB.out)) hb); clear HO_6; clear HO_8; clear HO_9; clear HB; have HO_6 := n0_; have HO_8 := n1_; have HO_9 := n2_; have HB := n3_; clear n0_ n1_ n2_ n3_; (try clear hb); (try clear hb2); (try clear hk); (try clear hi)) | ((with_reducible refine gate_callee (f := 50) rfl ?_); refine goesL_ (some 97) rfl rfl Try.func50 (by kernel_rfl) rfl #[.string a0, .int .i64 (wrap64 (x10_3 + 17))] rfl (by (try simp only [List.map_toArray, List.map_cons, List.map_nil]); first | done | rfl | (simp only [List.length_drop, List.length_take]; rfl)) ?_; (with_reducible refine (merkhetref02_GetText.calls k3 a0 (wrap64 (x10_3 + 17)) t290 true _ A27.out).mono ?_); rintro e w40 ⟨rfl, hb⟩; refine ⟨_, rfl, ?_⟩; have n0_ := Aside0.mk (Kd.R_below (by (with_reducible repeat (first | apply Kd.R_alloc | apply Kd.R_drewN | apply Kd.R_drew)); exact HO_6.out) hb); have n1_ := Aside0.mk (Kd.R_below (by (with_reducible repeat (first | apply Kd.R_alloc | apply Kd.R_drewN | apply Kd.R_drew)); exact HO_8.out) hb); have n2_ := Aside0.mk (Kd.R_below (by (with_reducible repeat (first | apply Kd.R_alloc | apply Kd.R_drewN | apply Kd.R_drew)); exact HO_9.out) hb); have n3_ := Aside0.mk (below_step (by repeat (first | (with_reducible first | exact HB.out | apply below_alloc | apply pw_below_drewN | apply below_drew1) | exact HB.out)) hb); clear HO_6; clear HO_8; clear HO_9; clear HB; have HO_6 := n0_; have HO_8 := n1_; have HO_9 := n2_; have HB := n3_; clear n0_ n1_ n2_ n3_; (try clear hb); (try clear hb2); (try clear hk); (try clear hi)))
                                                    (try (rw [drewN_self w40]; generalize hq_ : World.drewN w40 _ = w40; have n0_ : Aside0 (Kd.R k77 77 w40 w.heap.size (fun _ => True) u6 x6_2) := ⟨by rw [← hq_]; exact (by (with_reducible repeat (first | apply Kd.R_alloc | apply Kd.R_drewN | apply Kd.R_drew)); exact HO_6.out)⟩; have n1_ : Aside0 (Kd.R (Kd.int .u64) 75 w40 w.heap.size (fun _ => True) u8 x8_3) := ⟨by rw [← hq_]; exact (by (with_reducible repeat (first | apply Kd.R_alloc | apply Kd.R_drewN | apply Kd.R_drew)); exact HO_8.out)⟩; have n2_ : Aside0 (Kd.R (Kd.int .i64) 3 w40 w.heap.size (fun _ => True) (.slice Ao38 y278.length co38) y278) := ⟨by rw [← hq_]; exact (by (with_reducible repeat (first | apply Kd.R_alloc | apply Kd.R_drewN | apply Kd.R_drew)); exact HO_9.out)⟩; have n3_ : Aside0 (Below w.heap.size w w40) := ⟨by rw [← hq_]; exact (by repeat (first | (with_reducible first | exact HB.out | apply below_alloc | apply pw_below_drewN | apply below_drew1) | exact HB.out))⟩; clear HO_6 HO_8 HO_9 HB hq_; have HO_6 := n0_; have HO_8 := n1_; have HO_9 := n2_; have HB := n3_; clear n0_ n1_ n2_ n3_))
                                                    have n0_ := Aside0.mk (Kd.R_drew HO_6.out)
                                                    have n1_ := Aside0.mk (Kd.R_drew HO_8.out)
                                                    have n2_ := Aside0.mk (Kd.R_drew HO_9.out)
                                                    have n3_ := Aside0.mk (below_drew1 HB.out)
                                                    clear HO_6
                                                    clear HO_8
                                                    clear HO_9
                                                    clear HB
                                                    have HO_6 := n0_
                                                    have HO_8 := n1_
                                                    have HO_9 := n2_
                                                    have HB := n3_
                                                    clear n0_ n1_ n2_ n3_
                                                    obtain ⟨Ao42, co42, eo42⟩ := Kd.R_slice HO_8.out
                                                    (first | subst eo42 | (injection eo42 with f1_ f2_ f3_; have f4_ := f1_.symm; have f5_ := f3_.symm; clear f1_ f2_ f3_; subst f4_; subst f5_))
                                                    have p292 : 0 ≤ (0 : Int) := (by omega)
                                                    have q292 : 0 < (x8_3.length : Int) := of_decide_eq_true (by first | (with_reducible assumption) | assumption)
                                                    obtain ⟨ad292, e292, hx292_0⟩ := Kd.at_int (Kd.R_reads' HO_8.out).2.2 0 p292 q292
                                                    cases e292
                                                    have qi292 : (0 < x8_3.length) = True := eq_true (by omega)
                                                    (try rw [show ((0 : Int)).toNat = 0 from rfl] at hx292_0)
                                                    (try rw [Addr.add_zero'] at hx292_0)
                                                    replace p292 := eq_true p292
                                                    replace q292 := eq_true q292
                                                    have p293 : 0 ≤ (1 : Int) := (by omega)
                                                    have q293 : 1 < (x8_3.length : Int) := of_decide_eq_true (by first | (with_reducible assumption) | assumption)
                                                    obtain ⟨ad293, e293, hx293_0⟩ := Kd.at_int (Kd.R_reads' HO_8.out).2.2 1 p293 q293
                                                    obtain rfl : ad292 = ad293 := (by injection e293)
                                                    (try simp only [show (1 : Int).toNat = 1 from rfl, Nat.reduceMul, Nat.reduceEqDiff, Go.Addr.add, ↓reduceIte] at hx293_0)
                                                    have qi293 : (1 < x8_3.length) = True := eq_true (by omega)
                                                    (try rw [show ((1 : Int)).toNat = 1 from rfl] at hx293_0)
                                                    replace p293 := eq_true p293
                                                    replace q293 := eq_true q293
                                                    have p294 : 0 ≤ (2 : Int) := (by omega)
                                                    have q294 : 2 < (x8_3.length : Int) := of_decide_eq_true (by first | (with_reducible assumption) | assumption)
                                                    obtain ⟨ad294, e294, hx294_0⟩ := Kd.at_int (Kd.R_reads' HO_8.out).2.2 2 p294 q294
                                                    obtain rfl : ad292 = ad294 := (by injection e294)
                                                    (try simp only [show (2 : Int).toNat = 2 from rfl, Nat.reduceMul, Nat.reduceEqDiff, Go.Addr.add, ↓reduceIte] at hx294_0)
                                                    have qi294 : (2 < x8_3.length) = True := eq_true (by omega)
                                                    (try rw [show ((2 : Int)).toNat = 2 from rfl] at hx294_0)
                                                    replace p294 := eq_true p294
                                                    replace q294 := eq_true q294
                                                    have p295 : 0 ≤ (3 : Int) := (by omega)
                                                    have q295 : 3 < (x8_3.length : Int) := of_decide_eq_true (by first | (with_reducible assumption) | assumption)
                                                    obtain ⟨ad295, e295, hx295_0⟩ := Kd.at_int (Kd.R_reads' HO_8.out).2.2 3 p295 q295
                                                    obtain rfl : ad292 = ad295 := (by injection e295)
                                                    (try simp only [show (3 : Int).toNat = 3 from rfl, Nat.reduceMul, Nat.reduceEqDiff, Go.Addr.add, ↓reduceIte] at hx295_0)
                                                    have qi295 : (3 < x8_3.length) = True := eq_true (by omega)
                                                    (try rw [show ((3 : Int)).toNat = 3 from rfl] at hx295_0)
                                                    replace p295 := eq_true p295
                                                    replace q295 := eq_true q295
                                                    have p296 : 0 ≤ (4 : Int) := (by omega)
                                                    have q296 : 4 < (x8_3.length : Int) := of_decide_eq_true (by first | (with_reducible assumption) | assumption)
                                                    obtain ⟨ad296, e296, hx296_0⟩ := Kd.at_int (Kd.R_reads' HO_8.out).2.2 4 p296 q296
                                                    obtain rfl : ad292 = ad296 := (by injection e296)
                                                    (try simp only [show (4 : Int).toNat = 4 from rfl, Nat.reduceMul, Nat.reduceEqDiff, Go.Addr.add, ↓reduceIte] at hx296_0)
                                                    have qi296 : (4 < x8_3.length) = True := eq_true (by omega)
                                                    (try rw [show ((4 : Int)).toNat = 4 from rfl] at hx296_0)
                                                    replace p296 := eq_true p296
                                                    replace q296 := eq_true q296
                                                    have p297 : 0 ≤ (5 : Int) := (by omega)
                                                    have q297 : 5 < (x8_3.length : Int) := of_decide_eq_true (by first | (with_reducible assumption) | assumption)
                                                    obtain ⟨ad297, e297, hx297_0⟩ := Kd.at_int (Kd.R_reads' HO_8.out).2.2 5 p297 q297
                                                    obtain rfl : ad292 = ad297 := (by injection e297)
                                                    (try simp only [show (5 : Int).toNat = 5 from rfl, Nat.reduceMul, Nat.reduceEqDiff, Go.Addr.add, ↓reduceIte] at hx297_0)
                                                    have qi297 : (5 < x8_3.length) = True := eq_true (by omega)
                                                    (try rw [show ((5 : Int)).toNat = 5 from rfl] at hx297_0)
                                                    replace p297 := eq_true p297
                                                    replace q297 := eq_true q297
                                                    refine start_ (n := 26) (S := fun w' => w'.cell? ad292 = some (.int .u64 (rd x8_3 0)) ∧ w'.cell? ⟨ad292.block, ad292.off + 1, none⟩ = some (.int .u64 (rd x8_3 1)) ∧ w'.cell? ⟨ad292.block, ad292.off + 2, none⟩ = some (.int .u64 (rd x8_3 2)) ∧ w'.cell? ⟨ad292.block, ad292.off + 3, none⟩ = some (.int .u64 (rd x8_3 3)) ∧ w'.cell? ⟨ad292.block, ad292.off + 4, none⟩ = some (.int .u64 (rd x8_3 4)) ∧ w'.cell? ⟨ad292.block, ad292.off + 5, none⟩ = some (.int .u64 (rd x8_3 5))) (ds := [25]) #[false, false, false, false, false, false, false, false, false, false, false, false, false, false, false, false, false, false, false, false, false, false, false, false, false, false] (by kernel_rfl) rfl rfl ⟨hx292_0, hx293_0, hx294_0, hx295_0, hx296_0, hx297_0⟩ (fun hHeld => ?_); refine with_tabW merkhetref04_Get.tab31 merkhetref04_Get.bits31 (fun HT_ HW_ => ?_)
                                                    generalize w40.drew = w41 at HO_6 HO_8 HO_9 HB hx292_0 hx293_0 hx294_0 hx295_0 hx296_0 hx297_0 hHeld ⊢
                                                    refine pure_ (i := 0) (N := some 102) (v := ?_) (a' := ?_) #[true, false, false, false, false, false, false, false, false, false, false, false, false, false, false, false, false, false, false, false, false, false, false, false, false, false] rfl rfl (any_of HT_.out (by kernel_rfl)) (fun _ _ _ h => h) (Or.inl ⟨by rfl, ?_⟩) ?_ ?_
                                                    rotate_left
                                                    · intro w'
                                                      go_simp
                                                      with_reducible rfl
                                                    rotate_left
                                                    · simp only [Act.put, List.setIfInBounds_toArray, List.set_cons_zero, List.set_cons_succ, i64_w, i32_w]
                                                      rfl
                                                    refine pure_ (i := 1) (N := some 103) (v := ?_) (a' := ?_) #[true, true, false, false, false, false, false, false, false, false, false, false, false, false, false, false, false, false, false, false, false, false, false, false, false, false] rfl rfl (any_of HT_.out (by kernel_rfl)) (fun _ _ _ h => h) (Or.inl ⟨by rfl, ?_⟩) ?_ ?_
                                                    rotate_left
                                                    · intro w'
                                                      go_simp
                                                      with_reducible rfl
                                                    rotate_left
                                                    · simp only [Act.put, List.setIfInBounds_toArray, List.set_cons_zero, List.set_cons_succ, i64_w, i32_w]
                                                      rfl
                                                    refine pure_ (i := 3) (N := some 105) (v := ?_) (a' := ?_) #[true, true, false, true, false, false, false, false, false, false, false, false, false, false, false, false, false, false, false, false, false, false, false, false, false, false] rfl rfl (any_of HT_.out (by kernel_rfl)) (fun _ _ _ h => h) (Or.inl ⟨by rfl, ?_⟩) ?_ ?_
                                                    rotate_left
                                                    · intro w'
                                                      go_simp
                                                      with_reducible rfl
                                                    rotate_left
                                                    · simp only [Act.put, List.setIfInBounds_toArray, List.set_cons_zero, List.set_cons_succ, i64_w, i32_w]
                                                      rfl
                                                    refine pure_ (i := 4) (N := some 106) (v := ?_) (a' := ?_) #[true, true, false, true, true, false, false, false, false, false, false, false, false, false, false, false, false, false, false, false, false, false, false, false, false, false] rfl rfl (any_of HT_.out (by kernel_rfl)) (fun _ _ _ h => h) (Or.inl ⟨by rfl, ?_⟩) ?_ ?_
                                                    rotate_left
                                                    · intro w'
                                                      go_simp
                                                      with_reducible rfl
                                                    rotate_left
                                                    · simp only [Act.put, List.setIfInBounds_toArray, List.set_cons_zero, List.set_cons_succ, i64_w, i32_w]
                                                      rfl
                                                    refine pure_ (i := 6) (N := some 108) (v := ?_) (a' := ?_) #[true, true, false, true, true, false, true, false, false, false, false, false, false, false, false, false, false, false, false, false, false, false, false, false, false, false] rfl rfl (any_of HT_.out (by kernel_rfl)) (fun _ _ _ h => h) (Or.inl ⟨by rfl, ?_⟩) ?_ ?_
                                                    rotate_left
                                                    · intro w'
                                                      go_simp
                                                      with_reducible rfl
                                                    rotate_left
                                                    · simp only [Act.put, List.setIfInBounds_toArray, List.set_cons_zero, List.set_cons_succ, i64_w, i32_w]
                                                      rfl
                                                    refine pure_ (i := 7) (N := some 109) (v := ?_) (a' := ?_) #[true, true, false, true, true, false, true, true, false, false, false, false, false, false, false, false, false, false, false, false, false, false, false, false, false, false] rfl rfl (any_of HT_.out (by kernel_rfl)) (fun _ _ _ h => h) (Or.inl ⟨by rfl, ?_⟩) ?_ ?_
                                                    rotate_left
                                                    · intro w'
                                                      go_simp
                                                      with_reducible rfl
                                                    rotate_left
                                                    · simp only [Act.put, List.setIfInBounds_toArray, List.set_cons_zero, List.set_cons_succ, i64_w, i32_w]
                                                      rfl
                                                    refine pure_ (i := 9) (N := some 111) (v := ?_) (a' := ?_) #[true, true, false, true, true, false, true, true, false, true, false, false, false, false, false, false, false, false, false, false, false, false, false, false, false, false] rfl rfl (any_of HT_.out (by kernel_rfl)) (fun _ _ _ h => h) (Or.inl ⟨by rfl, ?_⟩) ?_ ?_
                                                    rotate_left
                                                    · intro w'
                                                      go_simp
                                                      with_reducible rfl
                                                    rotate_left
                                                    · simp only [Act.put, List.setIfInBounds_toArray, List.set_cons_zero, List.set_cons_succ, i64_w, i32_w]
                                                      rfl
                                                    refine pure_ (i := 10) (N := some 112) (v := ?_) (a' := ?_) #[true, true, false, true, true, false, true, true, false, true, true, false, false, false, false, false, false, false, false, false, false, false, false, false, false, false] rfl rfl (any_of HT_.out (by kernel_rfl)) (fun _ _ _ h => h) (Or.inl ⟨by rfl, ?_⟩) ?_ ?_
                                                    rotate_left
                                                    · intro w'
                                                      go_simp
                                                      with_reducible rfl
                                                    rotate_left
                                                    · simp only [Act.put, List.setIfInBounds_toArray, List.set_cons_zero, List.set_cons_succ, i64_w, i32_w]
                                                      rfl
                                                    refine pure_ (i := 13) (N := some 115) (v := ?_) (a' := ?_) #[true, true, false, true, true, false, true, true, false, true, true, false, false, true, false, false, false, false, false, false, false, false, false, false, false, false] rfl rfl (any_of HT_.out (by kernel_rfl)) (fun _ _ _ h => h) (Or.inl ⟨by rfl, ?_⟩) ?_ ?_
                                                    rotate_left
                                                    · intro w'
                                                      go_simp
                                                      with_reducible rfl
                                                    rotate_left
                                                    · simp only [Act.put, List.setIfInBounds_toArray, List.set_cons_zero, List.set_cons_succ, i64_w, i32_w]
                                                      rfl
                                                    refine pure_ (i := 14) (N := some 116) (v := ?_) (a' := ?_) #[true, true, false, true, true, false, true, true, false, true, true, false, false, true, true, false, false, false, false, false, false, false, false, false, false, false] rfl rfl (any_of HT_.out (by kernel_rfl)) (fun _ _ _ h => h) (Or.inl ⟨by rfl, ?_⟩) ?_ ?_
                                                    rotate_left
                                                    · intro w'
                                                      go_simp
                                                      with_reducible rfl
                                                    rotate_left
                                                    · simp only [Act.put, List.setIfInBounds_toArray, List.set_cons_zero, List.set_cons_succ, i64_w, i32_w]
                                                      rfl
                                                    refine pure_ (i := 17) (N := some 119) (v := ?_) (a' := ?_) #[true, true, false, true, true, false, true, true, false, true, true, false, false, true, true, false, false, true, false, false, false, false, false, false, false, false] rfl rfl (any_of HT_.out (by kernel_rfl)) (fun _ _ _ h => h) (Or.inl ⟨by rfl, ?_⟩) ?_ ?_
                                                    rotate_left
                                                    · intro w'
                                                      go_simp
                                                      with_reducible rfl
                                                    rotate_left
                                                    · simp only [Act.put, List.setIfInBounds_toArray, List.set_cons_zero, List.set_cons_succ, i64_w, i32_w]
                                                      rfl
                                                    refine pure_ (i := 18) (N := some 120) (v := ?_) (a' := ?_) #[true, true, false, true, true, false, true, true, false, true, true, false, false, true, true, false, false, true, true, false, false, false, false, false, false, false] rfl rfl (any_of HT_.out (by kernel_rfl)) (fun _ _ _ h => h) (Or.inl ⟨by rfl, ?_⟩) ?_ ?_
                                                    rotate_left
                                                    · intro w'
                                                      go_simp
                                                      with_reducible rfl
                                                    rotate_left
                                                    · simp only [Act.put, List.setIfInBounds_toArray, List.set_cons_zero, List.set_cons_succ, i64_w, i32_w]
                                                      rfl
                                                    refine pure_ (i := 21) (N := some 123) (v := ?_) (a' := ?_) #[true, true, false, true, true, false, true, true, false, true, true, false, false, true, true, false, false, true, true, false, false, true, false, false, false, false] rfl rfl (any_of HT_.out (by kernel_rfl)) (fun _ _ _ h => h) (Or.inl ⟨by rfl, ?_⟩) ?_ ?_
                                                    rotate_left
                                                    · intro w'
                                                      go_simp
                                                      with_reducible rfl
                                                    rotate_left
                                                    · simp only [Act.put, List.setIfInBounds_toArray, List.set_cons_zero, List.set_cons_succ, i64_w, i32_w]
                                                      rfl
                                                    refine pure_ (i := 22) (N := some 124) (v := ?_) (a' := ?_) #[true, true, false, true, true, false, true, true, false, true, true, false, false, true, true, false, false, true, true, false, false, true, true, false, false, false] rfl rfl (any_of HT_.out (by kernel_rfl)) (fun _ _ _ h => h) (Or.inl ⟨by rfl, ?_⟩) ?_ ?_
                                                    rotate_left
                                                    · intro w'
                                                      go_simp
                                                      with_reducible rfl
                                                    rotate_left
                                                    · simp only [Act.put, List.setIfInBounds_toArray, List.set_cons_zero, List.set_cons_succ, i64_w, i32_w]
                                                      rfl
                                                    refine take_ (i := 2) (N := some 104) (v := ?_) (a' := ?_) #[true, true, true, true, true, false, true, true, false, true, true, false, false, true, true, false, false, true, true, false, false, true, true, false, false, false] rfl rfl (take_ofW HT_.out HW_.out (by kernel_rfl)) (fun _ _ _ h => h) (Or.inl ⟨by rfl, ?_⟩) hHeld ?_ ?_
                                                    rotate_left
                                                    · rintro w' ⟨s0, s1, s2, s3, s4, s5⟩
                                                      go_simp
                                                      with_reducible rfl
                                                    rotate_left
                                                    · simp only [Act.put, List.setIfInBounds_toArray, List.set_cons_zero, List.set_cons_succ, i64_w, i32_w]
                                                      rfl
                                                    refine take_ (i := 5) (N := some 107) (v := ?_) (a' := ?_) #[true, true, true, true, true, true, true, true, false, true, true, false, false, true, true, false, false, true, true, false, false, true, true, false, false, false] rfl rfl (take_ofW HT_.out HW_.out (by kernel_rfl)) (fun _ _ _ h => h) (Or.inl ⟨by rfl, ?_⟩) hHeld ?_ ?_
                                                    rotate_left
                                                    · rintro w' ⟨s0, s1, s2, s3, s4, s5⟩
                                                      go_simp
                                                      with_reducible rfl
                                                    rotate_left
                                                    · simp only [Act.put, List.setIfInBounds_toArray, List.set_cons_zero, List.set_cons_succ, i64_w, i32_w]
                                                      rfl
                                                    refine take_ (i := 8) (N := some 110) (v := ?_) (a' := ?_) #[true, true, true, true, true, true, true, true, true, true, true, false, false, true, true, false, false, true, true, false, false, true, true, false, false, false] rfl rfl (take_ofW HT_.out HW_.out (by kernel_rfl)) (fun _ _ _ h => h) (Or.inl ⟨by rfl, ?_⟩) hHeld ?_ ?_
                                                    rotate_left
                                                    · rintro w' ⟨s0, s1, s2, s3, s4, s5⟩
                                                      go_simp
                                                      with_reducible rfl
                                                    rotate_left
                                                    · simp only [Act.put, List.setIfInBounds_toArray, List.set_cons_zero, List.set_cons_succ, i64_w, i32_w]
                                                      rfl
                                                    refine take_ (i := 11) (N := some 113) (v := ?_) (a' := ?_) #[true, true, true, true, true, true, true, true, true, true, true, true, false, true, true, false, false, true, true, false, false, true, true, false, false, false] rfl rfl (take_ofW HT_.out HW_.out (by kernel_rfl)) (fun _ _ _ h => h) (Or.inl ⟨by rfl, ?_⟩) hHeld ?_ ?_
                                                    rotate_left
                                                    · rintro w' ⟨s0, s1, s2, s3, s4, s5⟩
                                                      go_simp
                                                      with_reducible rfl
                                                    rotate_left
                                                    · simp only [Act.put, List.setIfInBounds_toArray, List.set_cons_zero, List.set_cons_succ, i64_w, i32_w]
                                                      rfl
                                                    refine pure_ (i := 12) (N := some 114) (v := ?_) (a' := ?_) #[true, true, true, true, true, true, true, true, true, true, true, true, true, true, true, false, false, true, true, false, false, true, true, false, false, false] rfl rfl (any_of HT_.out (by kernel_rfl)) (fun _ _ _ h => h) (Or.inl ⟨by rfl, ?_⟩) ?_ ?_
                                                    rotate_left
                                                    · intro w'
                                                      go_simp
                                                      with_reducible rfl
                                                    rotate_left
                                                    · simp only [Act.put, List.setIfInBounds_toArray, List.set_cons_zero, List.set_cons_succ, i64_w, i32_w]
                                                      rfl
                                                    refine take_ (i := 15) (N := some 117) (v := ?_) (a' := ?_) #[true, true, true, true, true, true, true, true, true, true, true, true, true, true, true, true, false, true, true, false, false, true, true, false, false, false] rfl rfl (take_ofW HT_.out HW_.out (by kernel_rfl)) (fun _ _ _ h => h) (Or.inl ⟨by rfl, ?_⟩) hHeld ?_ ?_
                                                    rotate_left
                                                    · rintro w' ⟨s0, s1, s2, s3, s4, s5⟩
                                                      go_simp
                                                      with_reducible rfl
                                                    rotate_left
                                                    · simp only [Act.put, List.setIfInBounds_toArray, List.set_cons_zero, List.set_cons_succ, i64_w, i32_w]
                                                      rfl
                                                    refine pure_ (i := 16) (N := some 118) (v := ?_) (a' := ?_) #[true, true, true, true, true, true, true, true, true, true, true, true, true, true, true, true, true, true, true, false, false, true, true, false, false, false] rfl rfl (any_of HT_.out (by kernel_rfl)) (fun _ _ _ h => h) (Or.inl ⟨by rfl, ?_⟩) ?_ ?_
                                                    rotate_left
                                                    · intro w'
                                                      go_simp
                                                      with_reducible rfl
                                                    rotate_left
                                                    · simp only [Act.put, List.setIfInBounds_toArray, List.set_cons_zero, List.set_cons_succ, i64_w, i32_w]
                                                      rfl
                                                    refine take_ (i := 19) (N := some 121) (v := ?_) (a' := ?_) #[true, true, true, true, true, true, true, true, true, true, true, true, true, true, true, true, true, true, true, true, false, true, true, false, false, false] rfl rfl (take_ofW HT_.out HW_.out (by kernel_rfl)) (fun _ _ _ h => h) (Or.inl ⟨by rfl, ?_⟩) hHeld ?_ ?_
                                                    rotate_left
                                                    · rintro w' ⟨s0, s1, s2, s3, s4, s5⟩
                                                      go_simp
                                                      with_reducible rfl
                                                    rotate_left
                                                    · simp only [Act.put, List.setIfInBounds_toArray, List.set_cons_zero, List.set_cons_succ, i64_w, i32_w]
                                                      rfl
                                                    refine pure_ (i := 20) (N := some 122) (v := ?_) (a' := ?_) #[true, true, true, true, true, true, true, true, true, true, true, true, true, true, true, true, true, true, true, true, true, true, true, false, false, false] rfl rfl (any_of HT_.out (by kernel_rfl)) (fun _ _ _ h => h) (Or.inl ⟨by rfl, ?_⟩) ?_ ?_
                                                    rotate_left
                                                    · intro w'
                                                      go_simp
                                                      with_reducible rfl
                                                    rotate_left
                                                    · simp only [Act.put, List.setIfInBounds_toArray, List.set_cons_zero, List.set_cons_succ, i64_w, i32_w]
                                                      rfl
                                                    refine pure_ (i := 23) (N := some 125) (v := ?_) (a' := ?_) #[true, true, true, true, true, true, true, true, true, true, true, true, true, true, true, true, true, true, true, true, true, true, true, true, false, false] rfl rfl (any_of HT_.out (by kernel_rfl)) (fun _ _ _ h => h) (Or.inl ⟨by rfl, ?_⟩) ?_ ?_
                                                    rotate_left
                                                    · intro w'
                                                      go_simp
                                                      with_reducible rfl
                                                    rotate_left
                                                    · simp only [Act.put, List.setIfInBounds_toArray, List.set_cons_zero, List.set_cons_succ, i64_w, i32_w]
                                                      rfl
                                                    refine one_ (i := 24) (N := some 17) #[true, true, true, true, true, true, true, true, true, true, true, true, true, true, true, true, true, true, true, true, true, true, true, true, true, false] rfl rfl (one_of HT_.out (by kernel_rfl)) (by decide) (fun K hK => ?_)
                                                    refine box_step ?hg (N := 17) ?hd (cs := #[.int .u64 0, .int .u64 0, .int .u64 0, .int .u8 0, .string (⟨#[]⟩ : ByteArray), .string (⟨#[]⟩ : ByteArray), .int .i64 0, .int .i64 0]) (t := 77) ?hr ?_; (case hd => rfl); (case hg => rfl); (case hr => first | (go_simp; done) | (go_simp; rfl))
                                                    intro gb298 hg w43 hbox hb
                                                    have HS0_ := (hb.cell (World.block_lt_of_cell? _ _ (hHeld.1))).trans (hHeld.1)
                                                    have HS1_ := (hb.cell (World.block_lt_of_cell? _ _ (hHeld.2.1))).trans (hHeld.2.1)
                                                    have HS2_ := (hb.cell (World.block_lt_of_cell? _ _ (hHeld.2.2.1))).trans (hHeld.2.2.1)
                                                    have HS3_ := (hb.cell (World.block_lt_of_cell? _ _ (hHeld.2.2.2.1))).trans (hHeld.2.2.2.1)
                                                    have HS4_ := (hb.cell (World.block_lt_of_cell? _ _ (hHeld.2.2.2.2.1))).trans (hHeld.2.2.2.2.1)
                                                    have HS5_ := (hb.cell (World.block_lt_of_cell? _ _ (hHeld.2.2.2.2.2))).trans (hHeld.2.2.2.2.2)
                                                    have n0_ := Aside0.mk (Kd.R_below (Kd.R_elderB (by (with_reducible repeat (first | apply Kd.R_alloc | apply Kd.R_drewN | apply Kd.R_drew)); exact HO_6.out) gb298 (Nat.le_of_eq hg.symm)) hb)
                                                    have n1_ := Aside0.mk (Kd.R_below (by (with_reducible repeat (first | apply Kd.R_alloc | apply Kd.R_drewN | apply Kd.R_drew)); exact HO_8.out) hb)
                                                    have n2_ := Aside0.mk (Kd.R_below (by (with_reducible repeat (first | apply Kd.R_alloc | apply Kd.R_drewN | apply Kd.R_drew)); exact HO_9.out) hb)
                                                    have n3_ := Aside0.mk (below_step (by repeat (first | (with_reducible first | exact HB.out | apply below_alloc | apply pw_below_drewN | apply below_drew1) | exact HB.out)) hb)
                                                    have n4_ := Aside0.mk (hbox)
                                                    have n5_ := Aside0.mk ((by rw [hg]; exact (below_size (by repeat (first | (with_reducible first | exact HB.out | apply below_alloc | apply pw_below_drewN | apply below_drew1) | exact HB.out))) : w.heap.size ≤ gb298))
                                                    have n6_ := Aside0.mk ((by rw [hg]; exact (below_size (by repeat (first | (with_reducible first | exact HB.out | apply below_alloc | apply pw_below_drewN | apply below_drew1) | exact HB.out))) : w.heap.size ≤ gb298))
                                                    clear HO_6
                                                    clear HO_8
                                                    clear HO_9
                                                    clear HB
                                                    have HO_6 := n0_
                                                    have HO_8 := n1_
                                                    have HO_9 := n2_
                                                    have HB := n3_
                                                    have BK298 := n4_
                                                    have GW298 := n5_
                                                    have GE298 := n6_
                                                    clear n0_ n1_ n2_ n3_ n4_ n5_ n6_
                                                    clear hb hbox hg
                                                    refine hK.out _ _ ⟨HS0_, HS1_, HS2_, HS3_, HS4_, HS5_⟩ (fun hHeld => ?_)
                                                    clear hK K
                                                    refine norm_ (a' := ?_) ?_ ?_
                                                    rotate_left
                                                    · show Act.put _ (some 17) _ = _
                                                      simp only [Act.put, List.setIfInBounds_toArray, List.set_cons_zero, List.set_cons_succ, i64_w, i32_w]
                                                      rfl
                                                    refine last_ (i := 25) (N := none) #[true, true, true, true, true, true, true, true, true, true, true, true, true, true, true, true, true, true, true, true, true, true, true, true, true, true] rfl rfl (one_of HT_.out (by kernel_rfl)) (by decide) (fun K hK => ?_)
                                                    have hs44 : w43.cell? ⟨gb298, 0, none⟩ = some (.int .u64 0) := (blk_cell BK298.out 0).trans rfl
                                                    have hfs44 := blk_frozen BK298.out 0
                                                    have hs45 : w43.cell? ⟨gb298, 1, none⟩ = some (.int .u64 0) := (blk_cell BK298.out 1).trans rfl
                                                    have hfs45 := blk_frozen BK298.out 1
                                                    have hs46 : w43.cell? ⟨gb298, 2, none⟩ = some (.int .u64 0) := (blk_cell BK298.out 2).trans rfl
                                                    have hfs46 := blk_frozen BK298.out 2
                                                    have hs47 : w43.cell? ⟨gb298, 3, none⟩ = some (.int .u8 0) := (blk_cell BK298.out 3).trans rfl
                                                    have hfs47 := blk_frozen BK298.out 3
                                                    have hs48 : w43.cell? ⟨gb298, 4, none⟩ = some (.string (⟨#[]⟩ : ByteArray)) := (blk_cell BK298.out 4).trans rfl
                                                    have hfs48 := blk_frozen BK298.out 4
                                                    have hs49 : w43.cell? ⟨gb298, 5, none⟩ = some (.string (⟨#[]⟩ : ByteArray)) := (blk_cell BK298.out 5).trans rfl
                                                    have hfs49 := blk_frozen BK298.out 5
                                                    have hs50 : w43.cell? ⟨gb298, 6, none⟩ = some (.int .i64 0) := (blk_cell BK298.out 6).trans rfl
                                                    have hfs50 := blk_frozen BK298.out 6
                                                    have hs51 : w43.cell? ⟨gb298, 7, none⟩ = some (.int .i64 0) := (blk_cell BK298.out 7).trans rfl
                                                    have hfs51 := blk_frozen BK298.out 7
                                                    refine skip_ (w1 := ?_) (by rfl) rfl ?_ ?_
                                                    rotate_left
                                                    · go_simp
                                                      rfl
                                                    refine hK.out _ _ ?_
                                                    clear hK K
                                                    refine done_ (done_of HT_.out (by kernel_rfl)) ?_
                                                    have hcz52_0 : w43.cell? ⟨gb298, 0, none⟩ = some (.int .u64 0) := (blk_cell BK298.out 0).trans rfl
                                                    have hcz52_1 : w43.cell? ⟨gb298, 1, none⟩ = some (.int .u64 0) := (blk_cell BK298.out 1).trans rfl
                                                    have hcz52_2 : w43.cell? ⟨gb298, 2, none⟩ = some (.int .u64 0) := (blk_cell BK298.out 2).trans rfl
                                                    have hcz52_3 : w43.cell? ⟨gb298, 3, none⟩ = some (.int .u8 0) := (blk_cell BK298.out 3).trans rfl
                                                    have hcz52_4 : w43.cell? ⟨gb298, 4, none⟩ = some (.string (⟨#[]⟩ : ByteArray)) := (blk_cell BK298.out 4).trans rfl
                                                    have hcz52_5 : w43.cell? ⟨gb298, 5, none⟩ = some (.string (⟨#[]⟩ : ByteArray)) := (blk_cell BK298.out 5).trans rfl
                                                    have hcz52_6 : w43.cell? ⟨gb298, 6, none⟩ = some (.int .i64 0) := (blk_cell BK298.out 6).trans rfl
                                                    have hcz52_7 : w43.cell? ⟨gb298, 7, none⟩ = some (.int .i64 0) := (blk_cell BK298.out 7).trans rfl
                                                    have hfz52_0 := blk_frozen BK298.out 0
                                                    have hfz52_1 := blk_frozen BK298.out 1
                                                    have hfz52_2 := blk_frozen BK298.out 2
                                                    have hfz52_3 := blk_frozen BK298.out 3
                                                    have hfz52_4 := blk_frozen BK298.out 4
                                                    have hfz52_5 := blk_frozen BK298.out 5
                                                    have hfz52_6 := blk_frozen BK298.out 6
                                                    have hfz52_7 := blk_frozen BK298.out 7
                                                    try go_wp2_with (first | ((with_reducible refine gate_callee (f := 51) rfl ?_); refine goesL_ (some 127) rfl rfl Try.func51 (by kernel_rfl) rfl #[.agg #[.int .u64 (rd x8_3 0), .int .u64 (rd x8_3 1), .int .u64 (rd x8_3 2), .int .u8 ((rd x8_3 3) % 256), .string t288, .string t290, .int .i64 (wrap64 (rd x8_3 4)), .int .i64 (wrap64 (rd x8_3 5))]] rfl (by (try simp only [List.map_toArray, List.map_cons, List.map_nil]); first | done | rfl | (simp only [List.length_drop, List.length_take]; rfl)) ?_; (with_reducible refine (merkhetref01_May.calls k3 (rd x8_3 0) (rd x8_3 1) (rd x8_3 2) ((rd x8_3 3) % 256) t288 t290 (wrap64 (rd x8_3 4)) (wrap64 (rd x8_3 5)) true _ A35.out).mono ?_); rintro e w53 ⟨rfl, hb⟩; refine ⟨_, rfl, ?_⟩; have n0_ := Aside0.mk (Kd.R_below (by (with_reducible repeat (first | apply Kd.R_alloc | apply Kd.R_drewN | apply Kd.R_drew)); exact (Kd.R_mono (Kd.R_far (p := ⟨gb298, 7, none⟩) (Kd.R_far (p := ⟨gb298, 6, none⟩) (Kd.R_far (p := ⟨gb298, 5, none⟩) (Kd.R_far (p := ⟨gb298, 4, none⟩) (Kd.R_far (p := ⟨gb298, 3, none⟩) (Kd.R_far (p := ⟨gb298, 2, none⟩) (Kd.R_far (p := ⟨gb298, 1, none⟩) (Kd.R_far (p := ⟨gb298, 0, none⟩) (Kd.R_mono HO_6.out (fun k_ hk => (⟨hk, hk.2⟩ : _ ∧ k_ ≠ gb298))) (fun _ hk => hk.2) (.int .u64 (rd x8_3 0))) (fun _ hk => hk.2) (.int .u64 (rd x8_3 1))) (fun _ hk => hk.2) (.int .u64 (rd x8_3 2))) (fun _ hk => hk.2) (.int .u8 ((rd x8_3 3) % 256))) (fun _ hk => hk.2) (.string t288)) (fun _ hk => hk.2) (.string t290)) (fun _ hk => hk.2) (.int .i64 (wrap64 (rd x8_3 4)))) (fun _ hk => hk.2) (.int .i64 (wrap64 (rd x8_3 5)))) (fun _ h_ => h_.1))) hb); have n1_ := Aside0.mk (Kd.R_below (by (with_reducible repeat (first | apply Kd.R_alloc | apply Kd.R_drewN | apply Kd.R_drew)); exact (Kd.R_mono (Kd.R_far (p := ⟨gb298, 7, none⟩) (Kd.R_far (p := ⟨gb298, 6, none⟩) (Kd.R_far (p := ⟨gb298, 5, none⟩) (Kd.R_far (p := ⟨gb298, 4, none⟩) (Kd.R_far (p := ⟨gb298, 3, none⟩) (Kd.R_far (p := ⟨gb298, 2, none⟩) (Kd.R_far (p := ⟨gb298, 1, none⟩) (Kd.R_far (p := ⟨gb298, 0, none⟩) (Kd.R_types HO_8.out BK298.out (by decide)) (fun _ hk => hk.2) (.int .u64 (rd x8_3 0))) (fun _ hk => hk.2) (.int .u64 (rd x8_3 1))) (fun _ hk => hk.2) (.int .u64 (rd x8_3 2))) (fun _ hk => hk.2) (.int .u8 ((rd x8_3 3) % 256))) (fun _ hk => hk.2) (.string t288)) (fun _ hk => hk.2) (.string t290)) (fun _ hk => hk.2) (.int .i64 (wrap64 (rd x8_3 4)))) (fun _ hk => hk.2) (.int .i64 (wrap64 (rd x8_3 5)))) (fun _ h_ => h_.1))) hb); have n2_ := Aside0.mk (Kd.R_below (by (with_reducible repeat (first | apply Kd.R_alloc | apply Kd.R_drewN | apply Kd.R_drew)); exact (Kd.R_mono (Kd.R_far (p := ⟨gb298, 7, none⟩) (Kd.R_far (p := ⟨gb298, 6, none⟩) (Kd.R_far (p := ⟨gb298, 5, none⟩) (Kd.R_far (p := ⟨gb298, 4, none⟩) (Kd.R_far (p := ⟨gb298, 3, none⟩) (Kd.R_far (p := ⟨gb298, 2, none⟩) (Kd.R_far (p := ⟨gb298, 1, none⟩) (Kd.R_far (p := ⟨gb298, 0, none⟩) (Kd.R_types HO_9.out BK298.out (by decide)) (fun _ hk => hk.2) (.int .u64 (rd x8_3 0))) (fun _ hk => hk.2) (.int .u64 (rd x8_3 1))) (fun _ hk => hk.2) (.int .u64 (rd x8_3 2))) (fun _ hk => hk.2) (.int .u8 ((rd x8_3 3) % 256))) (fun _ hk => hk.2) (.string t288)) (fun _ hk => hk.2) (.string t290)) (fun _ hk => hk.2) (.int .i64 (wrap64 (rd x8_3 4)))) (fun _ hk => hk.2) (.int .i64 (wrap64 (rd x8_3 5)))) (fun _ h_ => h_.1))) hb); have n3_ := Aside0.mk (blk_below (g := gb298) (o := .cells #[.int .u64 (rd x8_3 0), .int .u64 (rd x8_3 1), .int .u64 (rd x8_3 2), .int .u8 ((rd x8_3 3) % 256), .string t288, .string t290, .int .i64 (wrap64 (rd x8_3 4)), .int .i64 (wrap64 (rd x8_3 5))] 77 (0, 0)) (by (with_reducible repeat (first | refine blk_drewN ?_ _ | refine blk_drew ?_ | refine blk_alloc ?_ _)); refine blk_put (cs := #[.int .u64 (rd x8_3 0), .int .u64 (rd x8_3 1), .int .u64 (rd x8_3 2), .int .u8 ((rd x8_3 3) % 256), .string t288, .string t290, .int .i64 (wrap64 (rd x8_3 4)), .int .i64 0]) ?_ 7 _ rfl; (with_reducible repeat (first | refine blk_drewN ?_ _ | refine blk_drew ?_ | refine blk_alloc ?_ _)); refine blk_put (cs := #[.int .u64 (rd x8_3 0), .int .u64 (rd x8_3 1), .int .u64 (rd x8_3 2), .int .u8 ((rd x8_3 3) % 256), .string t288, .string t290, .int .i64 0, .int .i64 0]) ?_ 6 _ rfl; (with_reducible repeat (first | refine blk_drewN ?_ _ | refine blk_drew ?_ | refine blk_alloc ?_ _)); refine blk_put (cs := #[.int .u64 (rd x8_3 0), .int .u64 (rd x8_3 1), .int .u64 (rd x8_3 2), .int .u8 ((rd x8_3 3) % 256), .string t288, .string (⟨#[]⟩ : ByteArray), .int .i64 0, .int .i64 0]) ?_ 5 _ rfl; (with_reducible repeat (first | refine blk_drewN ?_ _ | refine blk_drew ?_ | refine blk_alloc ?_ _)); refine blk_put (cs := #[.int .u64 (rd x8_3 0), .int .u64 (rd x8_3 1), .int .u64 (rd x8_3 2), .int .u8 ((rd x8_3 3) % 256), .string (⟨#[]⟩ : ByteArray), .string (⟨#[]⟩ : ByteArray), .int .i64 0, .int .i64 0]) ?_ 4 _ rfl; (with_reducible repeat (first | refine blk_drewN ?_ _ | refine blk_drew ?_ | refine blk_alloc ?_ _)); refine blk_put (cs := #[.int .u64 (rd x8_3 0), .int .u64 (rd x8_3 1), .int .u64 (rd x8_3 2), .int .u8 0, .string (⟨#[]⟩ : ByteArray), .string (⟨#[]⟩ : ByteArray), .int .i64 0, .int .i64 0]) ?_ 3 _ rfl; (with_reducible repeat (first | refine blk_drewN ?_ _ | refine blk_drew ?_ | refine blk_alloc ?_ _)); refine blk_put (cs := #[.int .u64 (rd x8_3 0), .int .u64 (rd x8_3 1), .int .u64 0, .int .u8 0, .string (⟨#[]⟩ : ByteArray), .string (⟨#[]⟩ : ByteArray), .int .i64 0, .int .i64 0]) ?_ 2 _ rfl; (with_reducible repeat (first | refine blk_drewN ?_ _ | refine blk_drew ?_ | refine blk_alloc ?_ _)); refine blk_put (cs := #[.int .u64 (rd x8_3 0), .int .u64 0, .int .u64 0, .int .u8 0, .string (⟨#[]⟩ : ByteArray), .string (⟨#[]⟩ : ByteArray), .int .i64 0, .int .i64 0]) ?_ 1 _ rfl; (with_reducible repeat (first | refine blk_drewN ?_ _ | refine blk_drew ?_ | refine blk_alloc ?_ _)); refine blk_put (cs := #[.int .u64 0, .int .u64 0, .int .u64 0, .int .u8 0, .string (⟨#[]⟩ : ByteArray), .string (⟨#[]⟩ : ByteArray), .int .i64 0, .int .i64 0]) ?_ 0 _ rfl; (with_reducible repeat (first | refine blk_drewN ?_ _ | refine blk_drew ?_ | refine blk_alloc ?_ _)); exact BK298.out) hb); have n4_ := Aside0.mk (below_step (by repeat (first | (with_reducible first | exact HB.out | apply below_alloc | apply pw_below_drewN | apply below_drew1 | refine below_set ?_ GE298.out) | exact HB.out)) hb); clear HO_6; clear HO_8; clear HO_9; clear BK298; clear HB; have HO_6 := n0_; have HO_8 := n1_; have HO_9 := n2_; have BK298 := n3_; have HB := n4_; clear n0_ n1_ n2_ n3_ n4_; (try clear hb); (try clear hb2); (try clear hk); (try clear hi); have hcz54_0 : w53.cell? ⟨gb298, 0, none⟩ = some (.int .u64 (rd x8_3 0)) := (blk_cell BK298.out 0).trans rfl; have hcz54_1 : w53.cell? ⟨gb298, 1, none⟩ = some (.int .u64 (rd x8_3 1)) := (blk_cell BK298.out 1).trans rfl; have hcz54_2 : w53.cell? ⟨gb298, 2, none⟩ = some (.int .u64 (rd x8_3 2)) := (blk_cell BK298.out 2).trans rfl; have hcz54_3 : w53.cell? ⟨gb298, 3, none⟩ = some (.int .u8 ((rd x8_3 3) % 256)) := (blk_cell BK298.out 3).trans rfl; have hcz54_4 : w53.cell? ⟨gb298, 4, none⟩ = some (.string t288) := (blk_cell BK298.out 4).trans rfl; have hcz54_5 : w53.cell? ⟨gb298, 5, none⟩ = some (.string t290) := (blk_cell BK298.out 5).trans rfl; have hcz54_6 : w53.cell? ⟨gb298, 6, none⟩ = some (.int .i64 (wrap64 (rd x8_3 4))) := (blk_cell BK298.out 6).trans rfl; have hcz54_7 : w53.cell? ⟨gb298, 7, none⟩ = some (.int .i64 (wrap64 (rd x8_3 5))) := (blk_cell BK298.out 7).trans rfl; have hfz54_0 := blk_frozen BK298.out 0; have hfz54_1 := blk_frozen BK298.out 1; have hfz54_2 := blk_frozen BK298.out 2; have hfz54_3 := blk_frozen BK298.out 3; have hfz54_4 := blk_frozen BK298.out 4; have hfz54_5 := blk_frozen BK298.out 5; have hfz54_6 := blk_frozen BK298.out 6; have hfz54_7 := blk_frozen BK298.out 7) | ((with_reducible refine gate_builtin (b := .append) (xs := #[.tmp 129, .tmp 131]) rfl ?_); at_builtin; refine Kd.R_append k77 (w0 := w) w.heap.size rfl (.tmp 129) (.tmp 131) 22 77 (.agg #[(.int .u64 0), (.int .u64 0), (.int .u64 0), (.int .u8 0), (.string ⟨#[]⟩), (.string ⟨#[]⟩), (.int .i64 0), (.int .i64 0)]) 80 rfl Try.underlying22 info77 rfl (by decide) (by omega) u6 x6_2 (⟨rd x8_3 0, rd x8_3 1, rd x8_3 2, (rd x8_3 3) % 256, t288, t290, wrap64 (rd x8_3 4), wrap64 (rd x8_3 5)⟩ : S77) [.int .u64 (rd x8_3 0), .int .u64 (rd x8_3 1), .int .u64 (rd x8_3 2), .int .u8 ((rd x8_3 3) % 256), .string t288, .string t290, .int .i64 (wrap64 (rd x8_3 4)), .int .i64 (wrap64 (rd x8_3 5))] (fun k_ => k_ ≠ gb298) (fun _ => False) rfl rfl ?aP (fun _ hk => hk.elim) ?aF ?aO ?aB ?aS ?aL ?_; (case aP => exact k77_mkM _ _ _ (⟨rd x8_3 0, rd x8_3 1, rd x8_3 2, (rd x8_3 3) % 256, t288, t290, wrap64 (rd x8_3 4), wrap64 (rd x8_3 5)⟩ : S77)); (case aB => exact (by repeat (first | (with_reducible first | exact HB.out | apply below_alloc | apply pw_below_drewN | apply below_drew1 | refine below_set ?_ GE298.out) | exact HB.out))); (case aF => exact (fun k_ hk => Kd.freshB (g := gb298) (o := .cells #[.int .u64 (rd x8_3 0), .int .u64 (rd x8_3 1), .int .u64 (rd x8_3 2), .int .u8 ((rd x8_3 3) % 256), .string t288, .string t290, .int .i64 (wrap64 (rd x8_3 4)), .int .i64 (wrap64 (rd x8_3 5))] 77 (0, 0)) (by (with_reducible repeat (first | refine blk_drewN ?_ _ | refine blk_drew ?_ | refine blk_alloc ?_ _)); exact BK298.out) k_ hk)); (case aO => exact (by (with_reducible repeat (first | apply Kd.R_alloc | apply Kd.R_drewN | apply Kd.R_drew)); exact Kd.R_mono HO_6.out (fun _ hk => hk.2))); (case aS => exact (below_size (by repeat (first | (with_reducible first | exact HB.out | apply below_alloc | apply pw_below_drewN | apply below_drew1 | refine below_set ?_ GE298.out) | exact HB.out)))); (case aL => have := LMc37.out; omega); intro v301 w55 ho hb hg hat; rw [← Ny300.out] at ho; have n0_ := Aside0.mk (Kd.R_over' (by (with_reducible repeat (first | apply Kd.R_alloc | apply Kd.R_drewN | apply Kd.R_drew)); exact HO_8.out) (Kd.R_typed (by (with_reducible repeat (first | apply Kd.R_alloc | apply Kd.R_drewN | apply Kd.R_drew)); exact HO_6.out)) (by decide) hg); have n1_ := Aside0.mk (Kd.R_over' (by (with_reducible repeat (first | apply Kd.R_alloc | apply Kd.R_drewN | apply Kd.R_drew)); exact HO_9.out) (Kd.R_typed (by (with_reducible repeat (first | apply Kd.R_alloc | apply Kd.R_drewN | apply Kd.R_drew)); exact HO_6.out)) (by decide) hg); have n2_ := Aside0.mk (blk_grown (g := gb298) (o := .cells #[.int .u64 (rd x8_3 0), .int .u64 (rd x8_3 1), .int .u64 (rd x8_3 2), .int .u8 ((rd x8_3 3) % 256), .string t288, .string t290, .int .i64 (wrap64 (rd x8_3 4)), .int .i64 (wrap64 (rd x8_3 5))] 77 (0, 0)) (by (with_reducible repeat (first | refine blk_drewN ?_ _ | refine blk_drew ?_ | refine blk_alloc ?_ _)); exact BK298.out) hg (Kd.R_away HO_6.out (fun _ hk => hk.2))); have n3_ := Aside0.mk (hb); have n4_ := Aside0.mk (ho); clear HO_8; clear HO_9; clear BK298; clear HB; clear HO_6; have HO_8 := n0_; have HO_9 := n1_; have BK298 := n2_; have HB := n3_; have HO302 := n4_; clear n0_ n1_ n2_ n3_ n4_; clear ho hb hg hat))
                                                    go_roundg k3
                                                    case measure => have := HJ6.out; have := HK2.out; have := HK3.out; omega
                                                    case rel => exact ⟨(y300), (wrap64 (x7_2 + 75)), (by first | rfl | (simp; done) | (simp [*]; done)), H', ⟨by have := HJ6.out; have := HK2.out; have := HK3.out; omega⟩, ⟨by (with_reducible repeat (first | apply Kd.R_alloc | apply Kd.R_drewN | apply Kd.R_drew)); exact Kd.R_mono HO302.out (fun _ hk => trivial)⟩, ⟨by repeat (first | (with_reducible first | exact HB.out | apply below_alloc | apply pw_below_drewN | apply below_drew1 | refine below_set ?_ GE298.out) | exact HB.out)⟩⟩
                                                  · rw [if_neg c37] at H
                                                    exact absurd H (by simp)
                                                · replace c36 := Bool.eq_false_iff.mpr c36
                                                  subst c36
                                                  have H1 : (some (([] : List (S77)), 4)) = some (r1, r2) := by rw [if_neg (show ¬ (false = true) by decide)] at H; exact H
                                                  clear H
                                                  have H := H1
                                                  clear H1
                                                  simp only [Option.some.injEq, Prod.mk.injEq] at H
                                                  obtain ⟨rfl, rfl⟩ := H
                                                  obtain ⟨Ao56, co56, eo56⟩ := Kd.R_slice HO_9.out
                                                  subst eo56
                                                  try go_wp2_with (first | ((with_reducible refine gate_callee (f := 50) rfl ?_); refine goesL_ (some 88) rfl rfl Try.func50 (by kernel_rfl) rfl #[.string a0, .int .i64 x10_3] rfl (by (try simp only [List.map_toArray, List.map_cons, List.map_nil]); first | done | rfl | (simp only [List.length_drop, List.length_take]; rfl)) ?_; (with_reducible refine (merkhetref02_GetText.calls k3 a0 x10_3 t288 true _ A25.out).mono ?_); rintro e w57 ⟨rfl, hb⟩; refine ⟨_, rfl, ?_⟩; have n0_ := Aside0.mk (Kd.R_below (by (with_reducible repeat (first | apply Kd.R_alloc | apply Kd.R_drewN | apply Kd.R_drew)); exact HO_6.out) hb); have n1_ := Aside0.mk (Kd.R_below (by (with_reducible repeat (first | apply Kd.R_alloc | apply Kd.R_drewN | apply Kd.R_drew)); exact HO_8.out) hb); have n2_ := Aside0.mk (Kd.R_below (by (with_reducible repeat (first | apply Kd.R_alloc | apply Kd.R_drewN | apply Kd.R_drew)); exact HO_9.out) hb); have n3_ := Aside0.mk (below_step (by repeat (first | (with_reducible first | exact HB.out | apply below_alloc | apply pw_below_drewN | apply below_drew1) | exact HB.out)) hb); clear HO_6; clear HO_8; clear HO_9; clear HB; have HO_6 := n0_; have HO_8 := n1_; have HO_9 := n2_; have HB := n3_; clear n0_ n1_ n2_ n3_; (try clear hb); (try clear hb2); (try clear hk); (try clear hi)) | ((with_reducible refine gate_callee (f := 50) rfl ?_); refine goesL_ (some 97) rfl rfl Try.func50 (by kernel_rfl) rfl #[.string a0, .int .i64 (wrap64 (x10_3 + 17))] rfl (by (try simp only [List.map_toArray, List.map_cons, List.map_nil]); first | done | rfl | (simp only [List.length_drop, List.length_take]; rfl)) ?_; (with_reducible refine (merkhetref02_GetText.calls k3 a0 (wrap64 (x10_3 + 17)) t290 true _ A27.out).mono ?_); rintro e w58 ⟨rfl, hb⟩; refine ⟨_, rfl, ?_⟩; have n0_ := Aside0.mk (Kd.R_below (by (with_reducible repeat (first | apply Kd.R_alloc | apply Kd.R_drewN | apply Kd.R_drew)); exact HO_6.out) hb); have n1_ := Aside0.mk (Kd.R_below (by (with_reducible repeat (first | apply Kd.R_alloc | apply Kd.R_drewN | apply Kd.R_drew)); exact HO_8.out) hb); have n2_ := Aside0.mk (Kd.R_below (by (with_reducible repeat (first | apply Kd.R_alloc | apply Kd.R_drewN | apply Kd.R_drew)); exact HO_9.out) hb); have n3_ := Aside0.mk (below_step (by repeat (first | (with_reducible first | exact HB.out | apply below_alloc | apply pw_below_drewN | apply below_drew1) | exact HB.out)) hb); clear HO_6; clear HO_8; clear HO_9; clear HB; have HO_6 := n0_; have HO_8 := n1_; have HO_9 := n2_; have HB := n3_; clear n0_ n1_ n2_ n3_; (try clear hb); (try clear hb2); (try clear hk); (try clear hi)))
                                                  (try (rw [drewN_self w58]; generalize hq_ : World.drewN w58 _ = w58; have n0_ : Aside0 (Kd.R k77 77 w58 w.heap.size (fun _ => True) u6 x6_2) := ⟨by rw [← hq_]; exact (by (with_reducible repeat (first | apply Kd.R_alloc | apply Kd.R_drewN | apply Kd.R_drew)); exact HO_6.out)⟩; have n1_ : Aside0 (Kd.R (Kd.int .u64) 75 w58 w.heap.size (fun _ => True) u8 x8_3) := ⟨by rw [← hq_]; exact (by (with_reducible repeat (first | apply Kd.R_alloc | apply Kd.R_drewN | apply Kd.R_drew)); exact HO_8.out)⟩; have n2_ : Aside0 (Kd.R (Kd.int .i64) 3 w58 w.heap.size (fun _ => True) (.slice Ao56 y278.length co56) y278) := ⟨by rw [← hq_]; exact (by (with_reducible repeat (first | apply Kd.R_alloc | apply Kd.R_drewN | apply Kd.R_drew)); exact HO_9.out)⟩; have n3_ : Aside0 (Below w.heap.size w w58) := ⟨by rw [← hq_]; exact (by repeat (first | (with_reducible first | exact HB.out | apply below_alloc | apply pw_below_drewN | apply below_drew1) | exact HB.out))⟩; clear HO_6 HO_8 HO_9 HB hq_; have HO_6 := n0_; have HO_8 := n1_; have HO_9 := n2_; have HB := n3_; clear n0_ n1_ n2_ n3_))
                                                  have n0_ := Aside0.mk (Kd.R_drew HO_6.out)
                                                  have n1_ := Aside0.mk (Kd.R_drew HO_8.out)
                                                  have n2_ := Aside0.mk (Kd.R_drew HO_9.out)
                                                  have n3_ := Aside0.mk (below_drew1 HB.out)
                                                  clear HO_6
                                                  clear HO_8
                                                  clear HO_9
                                                  clear HB
                                                  have HO_6 := n0_
                                                  have HO_8 := n1_
                                                  have HO_9 := n2_
                                                  have HB := n3_
                                                  clear n0_ n1_ n2_ n3_
                                                  obtain ⟨Ao60, co60, eo60⟩ := Kd.R_slice HO_8.out
                                                  (first | subst eo60 | (injection eo60 with f1_ f2_ f3_; have f4_ := f1_.symm; have f5_ := f3_.symm; clear f1_ f2_ f3_; subst f4_; subst f5_))
                                                  have p292 : 0 ≤ (0 : Int) := (by omega)
                                                  have q292 : 0 < (x8_3.length : Int) := of_decide_eq_true (by first | (with_reducible assumption) | assumption)
                                                  obtain ⟨ad292, e292, hx292_0⟩ := Kd.at_int (Kd.R_reads' HO_8.out).2.2 0 p292 q292
                                                  cases e292
                                                  have qi292 : (0 < x8_3.length) = True := eq_true (by omega)
                                                  (try rw [show ((0 : Int)).toNat = 0 from rfl] at hx292_0)
                                                  (try rw [Addr.add_zero'] at hx292_0)
                                                  replace p292 := eq_true p292
                                                  replace q292 := eq_true q292
                                                  have p293 : 0 ≤ (1 : Int) := (by omega)
                                                  have q293 : 1 < (x8_3.length : Int) := of_decide_eq_true (by first | (with_reducible assumption) | assumption)
                                                  obtain ⟨ad293, e293, hx293_0⟩ := Kd.at_int (Kd.R_reads' HO_8.out).2.2 1 p293 q293
                                                  obtain rfl : ad292 = ad293 := (by injection e293)
                                                  (try simp only [show (1 : Int).toNat = 1 from rfl, Nat.reduceMul, Nat.reduceEqDiff, Go.Addr.add, ↓reduceIte] at hx293_0)
                                                  have qi293 : (1 < x8_3.length) = True := eq_true (by omega)
                                                  (try rw [show ((1 : Int)).toNat = 1 from rfl] at hx293_0)
                                                  replace p293 := eq_true p293
                                                  replace q293 := eq_true q293
                                                  have p294 : 0 ≤ (2 : Int) := (by omega)
                                                  have q294 : 2 < (x8_3.length : Int) := of_decide_eq_true (by first | (with_reducible assumption) | assumption)
                                                  obtain ⟨ad294, e294, hx294_0⟩ := Kd.at_int (Kd.R_reads' HO_8.out).2.2 2 p294 q294
                                                  obtain rfl : ad292 = ad294 := (by injection e294)
                                                  (try simp only [show (2 : Int).toNat = 2 from rfl, Nat.reduceMul, Nat.reduceEqDiff, Go.Addr.add, ↓reduceIte] at hx294_0)
                                                  have qi294 : (2 < x8_3.length) = True := eq_true (by omega)
                                                  (try rw [show ((2 : Int)).toNat = 2 from rfl] at hx294_0)
                                                  replace p294 := eq_true p294
                                                  replace q294 := eq_true q294
                                                  have p295 : 0 ≤ (3 : Int) := (by omega)
                                                  have q295 : 3 < (x8_3.length : Int) := of_decide_eq_true (by first | (with_reducible assumption) | assumption)
                                                  obtain ⟨ad295, e295, hx295_0⟩ := Kd.at_int (Kd.R_reads' HO_8.out).2.2 3 p295 q295
                                                  obtain rfl : ad292 = ad295 := (by injection e295)
                                                  (try simp only [show (3 : Int).toNat = 3 from rfl, Nat.reduceMul, Nat.reduceEqDiff, Go.Addr.add, ↓reduceIte] at hx295_0)
                                                  have qi295 : (3 < x8_3.length) = True := eq_true (by omega)
                                                  (try rw [show ((3 : Int)).toNat = 3 from rfl] at hx295_0)
                                                  replace p295 := eq_true p295
                                                  replace q295 := eq_true q295
                                                  have p296 : 0 ≤ (4 : Int) := (by omega)
                                                  have q296 : 4 < (x8_3.length : Int) := of_decide_eq_true (by first | (with_reducible assumption) | assumption)
                                                  obtain ⟨ad296, e296, hx296_0⟩ := Kd.at_int (Kd.R_reads' HO_8.out).2.2 4 p296 q296
                                                  obtain rfl : ad292 = ad296 := (by injection e296)
                                                  (try simp only [show (4 : Int).toNat = 4 from rfl, Nat.reduceMul, Nat.reduceEqDiff, Go.Addr.add, ↓reduceIte] at hx296_0)
                                                  have qi296 : (4 < x8_3.length) = True := eq_true (by omega)
                                                  (try rw [show ((4 : Int)).toNat = 4 from rfl] at hx296_0)
                                                  replace p296 := eq_true p296
                                                  replace q296 := eq_true q296
                                                  have p297 : 0 ≤ (5 : Int) := (by omega)
                                                  have q297 : 5 < (x8_3.length : Int) := of_decide_eq_true (by first | (with_reducible assumption) | assumption)
                                                  obtain ⟨ad297, e297, hx297_0⟩ := Kd.at_int (Kd.R_reads' HO_8.out).2.2 5 p297 q297
                                                  obtain rfl : ad292 = ad297 := (by injection e297)
                                                  (try simp only [show (5 : Int).toNat = 5 from rfl, Nat.reduceMul, Nat.reduceEqDiff, Go.Addr.add, ↓reduceIte] at hx297_0)
                                                  have qi297 : (5 < x8_3.length) = True := eq_true (by omega)
                                                  (try rw [show ((5 : Int)).toNat = 5 from rfl] at hx297_0)
                                                  replace p297 := eq_true p297
                                                  replace q297 := eq_true q297
                                                  refine start_ (n := 26) (S := fun w' => w'.cell? ad292 = some (.int .u64 (rd x8_3 0)) ∧ w'.cell? ⟨ad292.block, ad292.off + 1, none⟩ = some (.int .u64 (rd x8_3 1)) ∧ w'.cell? ⟨ad292.block, ad292.off + 2, none⟩ = some (.int .u64 (rd x8_3 2)) ∧ w'.cell? ⟨ad292.block, ad292.off + 3, none⟩ = some (.int .u64 (rd x8_3 3)) ∧ w'.cell? ⟨ad292.block, ad292.off + 4, none⟩ = some (.int .u64 (rd x8_3 4)) ∧ w'.cell? ⟨ad292.block, ad292.off + 5, none⟩ = some (.int .u64 (rd x8_3 5))) (ds := [25]) #[false, false, false, false, false, false, false, false, false, false, false, false, false, false, false, false, false, false, false, false, false, false, false, false, false, false] (by kernel_rfl) rfl rfl ⟨hx292_0, hx293_0, hx294_0, hx295_0, hx296_0, hx297_0⟩ (fun hHeld => ?_); refine with_tabW merkhetref04_Get.tab31 merkhetref04_Get.bits31 (fun HT_ HW_ => ?_)
                                                  generalize w58.drew = w59 at HO_6 HO_8 HO_9 HB hx292_0 hx293_0 hx294_0 hx295_0 hx296_0 hx297_0 hHeld ⊢
                                                  refine pure_ (i := 0) (N := some 102) (v := ?_) (a' := ?_) #[true, false, false, false, false, false, false, false, false, false, false, false, false, false, false, false, false, false, false, false, false, false, false, false, false, false] rfl rfl (any_of HT_.out (by kernel_rfl)) (fun _ _ _ h => h) (Or.inl ⟨by rfl, ?_⟩) ?_ ?_
                                                  rotate_left
                                                  · intro w'
                                                    go_simp
                                                    with_reducible rfl
                                                  rotate_left
                                                  · simp only [Act.put, List.setIfInBounds_toArray, List.set_cons_zero, List.set_cons_succ, i64_w, i32_w]
                                                    rfl
                                                  refine pure_ (i := 1) (N := some 103) (v := ?_) (a' := ?_) #[true, true, false, false, false, false, false, false, false, false, false, false, false, false, false, false, false, false, false, false, false, false, false, false, false, false] rfl rfl (any_of HT_.out (by kernel_rfl)) (fun _ _ _ h => h) (Or.inl ⟨by rfl, ?_⟩) ?_ ?_
                                                  rotate_left
                                                  · intro w'
                                                    go_simp
                                                    with_reducible rfl
                                                  rotate_left
                                                  · simp only [Act.put, List.setIfInBounds_toArray, List.set_cons_zero, List.set_cons_succ, i64_w, i32_w]
                                                    rfl
                                                  refine pure_ (i := 3) (N := some 105) (v := ?_) (a' := ?_) #[true, true, false, true, false, false, false, false, false, false, false, false, false, false, false, false, false, false, false, false, false, false, false, false, false, false] rfl rfl (any_of HT_.out (by kernel_rfl)) (fun _ _ _ h => h) (Or.inl ⟨by rfl, ?_⟩) ?_ ?_
                                                  rotate_left
                                                  · intro w'
                                                    go_simp
                                                    with_reducible rfl
                                                  rotate_left
                                                  · simp only [Act.put, List.setIfInBounds_toArray, List.set_cons_zero, List.set_cons_succ, i64_w, i32_w]
                                                    rfl
                                                  refine pure_ (i := 4) (N := some 106) (v := ?_) (a' := ?_) #[true, true, false, true, true, false, false, false, false, false, false, false, false, false, false, false, false, false, false, false, false, false, false, false, false, false] rfl rfl (any_of HT_.out (by kernel_rfl)) (fun _ _ _ h => h) (Or.inl ⟨by rfl, ?_⟩) ?_ ?_
                                                  rotate_left
                                                  · intro w'
                                                    go_simp
                                                    with_reducible rfl
                                                  rotate_left
                                                  · simp only [Act.put, List.setIfInBounds_toArray, List.set_cons_zero, List.set_cons_succ, i64_w, i32_w]
                                                    rfl
                                                  refine pure_ (i := 6) (N := some 108) (v := ?_) (a' := ?_) #[true, true, false, true, true, false, true, false, false, false, false, false, false, false, false, false, false, false, false, false, false, false, false, false, false, false] rfl rfl (any_of HT_.out (by kernel_rfl)) (fun _ _ _ h => h) (Or.inl ⟨by rfl, ?_⟩) ?_ ?_
                                                  rotate_left
                                                  · intro w'
                                                    go_simp
                                                    with_reducible rfl
                                                  rotate_left
                                                  · simp only [Act.put, List.setIfInBounds_toArray, List.set_cons_zero, List.set_cons_succ, i64_w, i32_w]
                                                    rfl
                                                  refine pure_ (i := 7) (N := some 109) (v := ?_) (a' := ?_) #[true, true, false, true, true, false, true, true, false, false, false, false, false, false, false, false, false, false, false, false, false, false, false, false, false, false] rfl rfl (any_of HT_.out (by kernel_rfl)) (fun _ _ _ h => h) (Or.inl ⟨by rfl, ?_⟩) ?_ ?_
                                                  rotate_left
                                                  · intro w'
                                                    go_simp
                                                    with_reducible rfl
                                                  rotate_left
                                                  · simp only [Act.put, List.setIfInBounds_toArray, List.set_cons_zero, List.set_cons_succ, i64_w, i32_w]
                                                    rfl
                                                  refine pure_ (i := 9) (N := some 111) (v := ?_) (a' := ?_) #[true, true, false, true, true, false, true, true, false, true, false, false, false, false, false, false, false, false, false, false, false, false, false, false, false, false] rfl rfl (any_of HT_.out (by kernel_rfl)) (fun _ _ _ h => h) (Or.inl ⟨by rfl, ?_⟩) ?_ ?_
                                                  rotate_left
                                                  · intro w'
                                                    go_simp
                                                    with_reducible rfl
                                                  rotate_left
                                                  · simp only [Act.put, List.setIfInBounds_toArray, List.set_cons_zero, List.set_cons_succ, i64_w, i32_w]
                                                    rfl
                                                  refine pure_ (i := 10) (N := some 112) (v := ?_) (a' := ?_) #[true, true, false, true, true, false, true, true, false, true, true, false, false, false, false, false, false, false, false, false, false, false, false, false, false, false] rfl rfl (any_of HT_.out (by kernel_rfl)) (fun _ _ _ h => h) (Or.inl ⟨by rfl, ?_⟩) ?_ ?_
                                                  rotate_left
                                                  · intro w'
                                                    go_simp
                                                    with_reducible rfl
                                                  rotate_left
                                                  · simp only [Act.put, List.setIfInBounds_toArray, List.set_cons_zero, List.set_cons_succ, i64_w, i32_w]
                                                    rfl
                                                  refine pure_ (i := 13) (N := some 115) (v := ?_) (a' := ?_) #[true, true, false, true, true, false, true, true, false, true, true, false, false, true, false, false, false, false, false, false, false, false, false, false, false, false] rfl rfl (any_of HT_.out (by kernel_rfl)) (fun _ _ _ h => h) (Or.inl ⟨by rfl, ?_⟩) ?_ ?_
                                                  rotate_left
                                                  · intro w'
                                                    go_simp
                                                    with_reducible rfl
                                                  rotate_left
                                                  · simp only [Act.put, List.setIfInBounds_toArray, List.set_cons_zero, List.set_cons_succ, i64_w, i32_w]
                                                    rfl
                                                  refine pure_ (i := 14) (N := some 116) (v := ?_) (a' := ?_) #[true, true, false, true, true, false, true, true, false, true, true, false, false, true, true, false, false, false, false, false, false, false, false, false, false, false] rfl rfl (any_of HT_.out (by kernel_rfl)) (fun _ _ _ h => h) (Or.inl ⟨by rfl, ?_⟩) ?_ ?_
                                                  rotate_left
                                                  · intro w'
                                                    go_simp
                                                    with_reducible rfl
                                                  rotate_left
                                                  · simp only [Act.put, List.setIfInBounds_toArray, List.set_cons_zero, List.set_cons_succ, i64_w, i32_w]
                                                    rfl
                                                  refine pure_ (i := 17) (N := some 119) (v := ?_) (a' := ?_) #[true, true, false, true, true, false, true, true, false, true, true, false, false, true, true, false, false, true, false, false, false, false, false, false, false, false] rfl rfl (any_of HT_.out (by kernel_rfl)) (fun _ _ _ h => h) (Or.inl ⟨by rfl, ?_⟩) ?_ ?_
                                                  rotate_left
                                                  · intro w'
                                                    go_simp
                                                    with_reducible rfl
                                                  rotate_left
                                                  · simp only [Act.put, List.setIfInBounds_toArray, List.set_cons_zero, List.set_cons_succ, i64_w, i32_w]
                                                    rfl
                                                  refine pure_ (i := 18) (N := some 120) (v := ?_) (a' := ?_) #[true, true, false, true, true, false, true, true, false, true, true, false, false, true, true, false, false, true, true, false, false, false, false, false, false, false] rfl rfl (any_of HT_.out (by kernel_rfl)) (fun _ _ _ h => h) (Or.inl ⟨by rfl, ?_⟩) ?_ ?_
                                                  rotate_left
                                                  · intro w'
                                                    go_simp
                                                    with_reducible rfl
                                                  rotate_left
                                                  · simp only [Act.put, List.setIfInBounds_toArray, List.set_cons_zero, List.set_cons_succ, i64_w, i32_w]
                                                    rfl
                                                  refine pure_ (i := 21) (N := some 123) (v := ?_) (a' := ?_) #[true, true, false, true, true, false, true, true, false, true, true, false, false, true, true, false, false, true, true, false, false, true, false, false, false, false] rfl rfl (any_of HT_.out (by kernel_rfl)) (fun _ _ _ h => h) (Or.inl ⟨by rfl, ?_⟩) ?_ ?_
                                                  rotate_left
                                                  · intro w'
                                                    go_simp
                                                    with_reducible rfl
                                                  rotate_left
                                                  · simp only [Act.put, List.setIfInBounds_toArray, List.set_cons_zero, List.set_cons_succ, i64_w, i32_w]
                                                    rfl
                                                  refine pure_ (i := 22) (N := some 124) (v := ?_) (a' := ?_) #[true, true, false, true, true, false, true, true, false, true, true, false, false, true, true, false, false, true, true, false, false, true, true, false, false, false] rfl rfl (any_of HT_.out (by kernel_rfl)) (fun _ _ _ h => h) (Or.inl ⟨by rfl, ?_⟩) ?_ ?_
                                                  rotate_left
                                                  · intro w'
                                                    go_simp
                                                    with_reducible rfl
                                                  rotate_left
                                                  · simp only [Act.put, List.setIfInBounds_toArray, List.set_cons_zero, List.set_cons_succ, i64_w, i32_w]
                                                    rfl
                                                  refine take_ (i := 2) (N := some 104) (v := ?_) (a' := ?_) #[true, true, true, true, true, false, true, true, false, true, true, false, false, true, true, false, false, true, true, false, false, true, true, false, false, false] rfl rfl (take_ofW HT_.out HW_.out (by kernel_rfl)) (fun _ _ _ h => h) (Or.inl ⟨by rfl, ?_⟩) hHeld ?_ ?_
                                                  rotate_left
                                                  · rintro w' ⟨s0, s1, s2, s3, s4, s5⟩
                                                    go_simp
                                                    with_reducible rfl
                                                  rotate_left
                                                  · simp only [Act.put, List.setIfInBounds_toArray, List.set_cons_zero, List.set_cons_succ, i64_w, i32_w]
                                                    rfl
                                                  refine take_ (i := 5) (N := some 107) (v := ?_) (a' := ?_) #[true, true, true, true, true, true, true, true, false, true, true, false, false, true, true, false, false, true, true, false, false, true, true, false, false, false] rfl rfl (take_ofW HT_.out HW_.out (by kernel_rfl)) (fun _ _ _ h => h) (Or.inl ⟨by rfl, ?_⟩) hHeld ?_ ?_
                                                  rotate_left
                                                  · rintro w' ⟨s0, s1, s2, s3, s4, s5⟩
                                                    go_simp
                                                    with_reducible rfl
                                                  rotate_left
                                                  · simp only [Act.put, List.setIfInBounds_toArray, List.set_cons_zero, List.set_cons_succ, i64_w, i32_w]
                                                    rfl
                                                  refine take_ (i := 8) (N := some 110) (v := ?_) (a' := ?_) #[true, true, true, true, true, true, true, true, true, true, true, false, false, true, true, false, false, true, true, false, false, true, true, false, false, false] rfl rfl (take_ofW HT_.out HW_.out (by kernel_rfl)) (fun _ _ _ h => h) (Or.inl ⟨by rfl, ?_⟩) hHeld ?_ ?_
                                                  rotate_left
                                                  · rintro w' ⟨s0, s1, s2, s3, s4, s5⟩
                                                    go_simp
                                                    with_reducible rfl
                                                  rotate_left
                                                  · simp only [Act.put, List.setIfInBounds_toArray, List.set_cons_zero, List.set_cons_succ, i64_w, i32_w]
                                                    rfl
                                                  refine take_ (i := 11) (N := some 113) (v := ?_) (a' := ?_) #[true, true, true, true, true, true, true, true, true, true, true, true, false, true, true, false, false, true, true, false, false, true, true, false, false, false] rfl rfl (take_ofW HT_.out HW_.out (by kernel_rfl)) (fun _ _ _ h => h) (Or.inl ⟨by rfl, ?_⟩) hHeld ?_ ?_
                                                  rotate_left
                                                  · rintro w' ⟨s0, s1, s2, s3, s4, s5⟩
                                                    go_simp
                                                    with_reducible rfl
                                                  rotate_left
                                                  · simp only [Act.put, List.setIfInBounds_toArray, List.set_cons_zero, List.set_cons_succ, i64_w, i32_w]
                                                    rfl
                                                  refine pure_ (i := 12) (N := some 114) (v := ?_) (a' := ?_) #[true, true, true, true, true, true, true, true, true, true, true, true, true, true, true, false, false, true, true, false, false, true, true, false, false, false] rfl rfl (any_of HT_.out (by kernel_rfl)) (fun _ _ _ h => h) (Or.inl ⟨by rfl, ?_⟩) ?_ ?_
                                                  rotate_left
                                                  · intro w'
                                                    go_simp
                                                    with_reducible rfl
                                                  rotate_left
                                                  · simp only [Act.put, List.setIfInBounds_toArray, List.set_cons_zero, List.set_cons_succ, i64_w, i32_w]
                                                    rfl
                                                  refine take_ (i := 15) (N := some 117) (v := ?_) (a' := ?_) #[true, true, true, true, true, true, true, true, true, true, true, true, true, true, true, true, false, true, true, false, false, true, true, false, false, false] rfl rfl (take_ofW HT_.out HW_.out (by kernel_rfl)) (fun _ _ _ h => h) (Or.inl ⟨by rfl, ?_⟩) hHeld ?_ ?_
                                                  rotate_left
                                                  · rintro w' ⟨s0, s1, s2, s3, s4, s5⟩
                                                    go_simp
                                                    with_reducible rfl
                                                  rotate_left
                                                  · simp only [Act.put, List.setIfInBounds_toArray, List.set_cons_zero, List.set_cons_succ, i64_w, i32_w]
                                                    rfl
                                                  refine pure_ (i := 16) (N := some 118) (v := ?_) (a' := ?_) #[true, true, true, true, true, true, true, true, true, true, true, true, true, true, true, true, true, true, true, false, false, true, true, false, false, false] rfl rfl (any_of HT_.out (by kernel_rfl)) (fun _ _ _ h => h) (Or.inl ⟨by rfl, ?_⟩) ?_ ?_
                                                  rotate_left
                                                  · intro w'
                                                    go_simp
                                                    with_reducible rfl
                                                  rotate_left
                                                  · simp only [Act.put, List.setIfInBounds_toArray, List.set_cons_zero, List.set_cons_succ, i64_w, i32_w]
                                                    rfl
                                                  refine take_ (i := 19) (N := some 121) (v := ?_) (a' := ?_) #[true, true, true, true, true, true, true, true, true, true, true, true, true, true, true, true, true, true, true, true, false, true, true, false, false, false] rfl rfl (take_ofW HT_.out HW_.out (by kernel_rfl)) (fun _ _ _ h => h) (Or.inl ⟨by rfl, ?_⟩) hHeld ?_ ?_
                                                  rotate_left
                                                  · rintro w' ⟨s0, s1, s2, s3, s4, s5⟩
                                                    go_simp
                                                    with_reducible rfl
                                                  rotate_left
                                                  · simp only [Act.put, List.setIfInBounds_toArray, List.set_cons_zero, List.set_cons_succ, i64_w, i32_w]
                                                    rfl
                                                  refine pure_ (i := 20) (N := some 122) (v := ?_) (a' := ?_) #[true, true, true, true, true, true, true, true, true, true, true, true, true, true, true, true, true, true, true, true, true, true, true, false, false, false] rfl rfl (any_of HT_.out (by kernel_rfl)) (fun _ _ _ h => h) (Or.inl ⟨by rfl, ?_⟩) ?_ ?_
                                                  rotate_left
                                                  · intro w'
                                                    go_simp
                                                    with_reducible rfl
                                                  rotate_left
                                                  · simp only [Act.put, List.setIfInBounds_toArray, List.set_cons_zero, List.set_cons_succ, i64_w, i32_w]
                                                    rfl
                                                  refine pure_ (i := 23) (N := some 125) (v := ?_) (a' := ?_) #[true, true, true, true, true, true, true, true, true, true, true, true, true, true, true, true, true, true, true, true, true, true, true, true, false, false] rfl rfl (any_of HT_.out (by kernel_rfl)) (fun _ _ _ h => h) (Or.inl ⟨by rfl, ?_⟩) ?_ ?_
                                                  rotate_left
                                                  · intro w'
                                                    go_simp
                                                    with_reducible rfl
                                                  rotate_left
                                                  · simp only [Act.put, List.setIfInBounds_toArray, List.set_cons_zero, List.set_cons_succ, i64_w, i32_w]
                                                    rfl
                                                  refine one_ (i := 24) (N := some 17) #[true, true, true, true, true, true, true, true, true, true, true, true, true, true, true, true, true, true, true, true, true, true, true, true, true, false] rfl rfl (one_of HT_.out (by kernel_rfl)) (by decide) (fun K hK => ?_)
                                                  refine box_step ?hg (N := 17) ?hd (cs := #[.int .u64 0, .int .u64 0, .int .u64 0, .int .u8 0, .string (⟨#[]⟩ : ByteArray), .string (⟨#[]⟩ : ByteArray), .int .i64 0, .int .i64 0]) (t := 77) ?hr ?_; (case hd => rfl); (case hg => rfl); (case hr => first | (go_simp; done) | (go_simp; rfl))
                                                  intro gb298 hg w61 hbox hb
                                                  have HS0_ := (hb.cell (World.block_lt_of_cell? _ _ (hHeld.1))).trans (hHeld.1)
                                                  have HS1_ := (hb.cell (World.block_lt_of_cell? _ _ (hHeld.2.1))).trans (hHeld.2.1)
                                                  have HS2_ := (hb.cell (World.block_lt_of_cell? _ _ (hHeld.2.2.1))).trans (hHeld.2.2.1)
                                                  have HS3_ := (hb.cell (World.block_lt_of_cell? _ _ (hHeld.2.2.2.1))).trans (hHeld.2.2.2.1)
                                                  have HS4_ := (hb.cell (World.block_lt_of_cell? _ _ (hHeld.2.2.2.2.1))).trans (hHeld.2.2.2.2.1)
                                                  have HS5_ := (hb.cell (World.block_lt_of_cell? _ _ (hHeld.2.2.2.2.2))).trans (hHeld.2.2.2.2.2)
                                                  have n0_ := Aside0.mk (Kd.R_below (Kd.R_elderB (by (with_reducible repeat (first | apply Kd.R_alloc | apply Kd.R_drewN | apply Kd.R_drew)); exact HO_6.out) gb298 (Nat.le_of_eq hg.symm)) hb)
                                                  have n1_ := Aside0.mk (Kd.R_below (by (with_reducible repeat (first | apply Kd.R_alloc | apply Kd.R_drewN | apply Kd.R_drew)); exact HO_8.out) hb)
                                                  have n2_ := Aside0.mk (Kd.R_below (by (with_reducible repeat (first | apply Kd.R_alloc | apply Kd.R_drewN | apply Kd.R_drew)); exact HO_9.out) hb)
                                                  have n3_ := Aside0.mk (below_step (by repeat (first | (with_reducible first | exact HB.out | apply below_alloc | apply pw_below_drewN | apply below_drew1) | exact HB.out)) hb)
                                                  have n4_ := Aside0.mk (hbox)
                                                  have n5_ := Aside0.mk ((by rw [hg]; exact (below_size (by repeat (first | (with_reducible first | exact HB.out | apply below_alloc | apply pw_below_drewN | apply below_drew1) | exact HB.out))) : w.heap.size ≤ gb298))
                                                  have n6_ := Aside0.mk ((by rw [hg]; exact (below_size (by repeat (first | (with_reducible first | exact HB.out | apply below_alloc | apply pw_below_drewN | apply below_drew1) | exact HB.out))) : w.heap.size ≤ gb298))
                                                  clear HO_6
                                                  clear HO_8
                                                  clear HO_9
                                                  clear HB
                                                  have HO_6 := n0_
                                                  have HO_8 := n1_
                                                  have HO_9 := n2_
                                                  have HB := n3_
                                                  have BK298 := n4_
                                                  have GW298 := n5_
                                                  have GE298 := n6_
                                                  clear n0_ n1_ n2_ n3_ n4_ n5_ n6_
                                                  clear hb hbox hg
                                                  refine hK.out _ _ ⟨HS0_, HS1_, HS2_, HS3_, HS4_, HS5_⟩ (fun hHeld => ?_)
                                                  clear hK K
                                                  refine norm_ (a' := ?_) ?_ ?_
                                                  rotate_left
                                                  · show Act.put _ (some 17) _ = _
                                                    simp only [Act.put, List.setIfInBounds_toArray, List.set_cons_zero, List.set_cons_succ, i64_w, i32_w]
                                                    rfl
                                                  refine last_ (i := 25) (N := none) #[true, true, true, true, true, true, true, true, true, true, true, true, true, true, true, true, true, true, true, true, true, true, true, true, true, true] rfl rfl (one_of HT_.out (by kernel_rfl)) (by decide) (fun K hK => ?_)
                                                  have hs62 : w61.cell? ⟨gb298, 0, none⟩ = some (.int .u64 0) := (blk_cell BK298.out 0).trans rfl
                                                  have hfs62 := blk_frozen BK298.out 0
                                                  have hs63 : w61.cell? ⟨gb298, 1, none⟩ = some (.int .u64 0) := (blk_cell BK298.out 1).trans rfl
                                                  have hfs63 := blk_frozen BK298.out 1
                                                  have hs64 : w61.cell? ⟨gb298, 2, none⟩ = some (.int .u64 0) := (blk_cell BK298.out 2).trans rfl
                                                  have hfs64 := blk_frozen BK298.out 2
                                                  have hs65 : w61.cell? ⟨gb298, 3, none⟩ = some (.int .u8 0) := (blk_cell BK298.out 3).trans rfl
                                                  have hfs65 := blk_frozen BK298.out 3
                                                  have hs66 : w61.cell? ⟨gb298, 4, none⟩ = some (.string (⟨#[]⟩ : ByteArray)) := (blk_cell BK298.out 4).trans rfl
                                                  have hfs66 := blk_frozen BK298.out 4
                                                  have hs67 : w61.cell? ⟨gb298, 5, none⟩ = some (.string (⟨#[]⟩ : ByteArray)) := (blk_cell BK298.out 5).trans rfl
                                                  have hfs67 := blk_frozen BK298.out 5
                                                  have hs68 : w61.cell? ⟨gb298, 6, none⟩ = some (.int .i64 0) := (blk_cell BK298.out 6).trans rfl
                                                  have hfs68 := blk_frozen BK298.out 6
                                                  have hs69 : w61.cell? ⟨gb298, 7, none⟩ = some (.int .i64 0) := (blk_cell BK298.out 7).trans rfl
                                                  have hfs69 := blk_frozen BK298.out 7
                                                  refine skip_ (w1 := ?_) (by rfl) rfl ?_ ?_
                                                  rotate_left
                                                  · go_simp
                                                    rfl
                                                  refine hK.out _ _ ?_
                                                  clear hK K
                                                  refine done_ (done_of HT_.out (by kernel_rfl)) ?_
                                                  have hcz70_0 : w61.cell? ⟨gb298, 0, none⟩ = some (.int .u64 0) := (blk_cell BK298.out 0).trans rfl
                                                  have hcz70_1 : w61.cell? ⟨gb298, 1, none⟩ = some (.int .u64 0) := (blk_cell BK298.out 1).trans rfl
                                                  have hcz70_2 : w61.cell? ⟨gb298, 2, none⟩ = some (.int .u64 0) := (blk_cell BK298.out 2).trans rfl
                                                  have hcz70_3 : w61.cell? ⟨gb298, 3, none⟩ = some (.int .u8 0) := (blk_cell BK298.out 3).trans rfl
                                                  have hcz70_4 : w61.cell? ⟨gb298, 4, none⟩ = some (.string (⟨#[]⟩ : ByteArray)) := (blk_cell BK298.out 4).trans rfl
                                                  have hcz70_5 : w61.cell? ⟨gb298, 5, none⟩ = some (.string (⟨#[]⟩ : ByteArray)) := (blk_cell BK298.out 5).trans rfl
                                                  have hcz70_6 : w61.cell? ⟨gb298, 6, none⟩ = some (.int .i64 0) := (blk_cell BK298.out 6).trans rfl
                                                  have hcz70_7 : w61.cell? ⟨gb298, 7, none⟩ = some (.int .i64 0) := (blk_cell BK298.out 7).trans rfl
                                                  have hfz70_0 := blk_frozen BK298.out 0
                                                  have hfz70_1 := blk_frozen BK298.out 1
                                                  have hfz70_2 := blk_frozen BK298.out 2
                                                  have hfz70_3 := blk_frozen BK298.out 3
                                                  have hfz70_4 := blk_frozen BK298.out 4
                                                  have hfz70_5 := blk_frozen BK298.out 5
                                                  have hfz70_6 := blk_frozen BK298.out 6
                                                  have hfz70_7 := blk_frozen BK298.out 7
                                                  try go_wp2_with (first | ((with_reducible refine gate_callee (f := 51) rfl ?_); refine goesL_ (some 127) rfl rfl Try.func51 (by kernel_rfl) rfl #[.agg #[.int .u64 (rd x8_3 0), .int .u64 (rd x8_3 1), .int .u64 (rd x8_3 2), .int .u8 ((rd x8_3 3) % 256), .string t288, .string t290, .int .i64 (wrap64 (rd x8_3 4)), .int .i64 (wrap64 (rd x8_3 5))]] rfl (by (try simp only [List.map_toArray, List.map_cons, List.map_nil]); first | done | rfl | (simp only [List.length_drop, List.length_take]; rfl)) ?_; (with_reducible refine (merkhetref01_May.calls k3 (rd x8_3 0) (rd x8_3 1) (rd x8_3 2) ((rd x8_3 3) % 256) t288 t290 (wrap64 (rd x8_3 4)) (wrap64 (rd x8_3 5)) false _ A35.out).mono ?_); rintro e w71 ⟨rfl, hb⟩; refine ⟨_, rfl, ?_⟩; have n0_ := Aside0.mk (Kd.R_below (by (with_reducible repeat (first | apply Kd.R_alloc | apply Kd.R_drewN | apply Kd.R_drew)); exact (Kd.R_mono (Kd.R_far (p := ⟨gb298, 7, none⟩) (Kd.R_far (p := ⟨gb298, 6, none⟩) (Kd.R_far (p := ⟨gb298, 5, none⟩) (Kd.R_far (p := ⟨gb298, 4, none⟩) (Kd.R_far (p := ⟨gb298, 3, none⟩) (Kd.R_far (p := ⟨gb298, 2, none⟩) (Kd.R_far (p := ⟨gb298, 1, none⟩) (Kd.R_far (p := ⟨gb298, 0, none⟩) (Kd.R_mono HO_6.out (fun k_ hk => (⟨hk, hk.2⟩ : _ ∧ k_ ≠ gb298))) (fun _ hk => hk.2) (.int .u64 (rd x8_3 0))) (fun _ hk => hk.2) (.int .u64 (rd x8_3 1))) (fun _ hk => hk.2) (.int .u64 (rd x8_3 2))) (fun _ hk => hk.2) (.int .u8 ((rd x8_3 3) % 256))) (fun _ hk => hk.2) (.string t288)) (fun _ hk => hk.2) (.string t290)) (fun _ hk => hk.2) (.int .i64 (wrap64 (rd x8_3 4)))) (fun _ hk => hk.2) (.int .i64 (wrap64 (rd x8_3 5)))) (fun _ h_ => h_.1))) hb); have n1_ := Aside0.mk (Kd.R_below (by (with_reducible repeat (first | apply Kd.R_alloc | apply Kd.R_drewN | apply Kd.R_drew)); exact (Kd.R_mono (Kd.R_far (p := ⟨gb298, 7, none⟩) (Kd.R_far (p := ⟨gb298, 6, none⟩) (Kd.R_far (p := ⟨gb298, 5, none⟩) (Kd.R_far (p := ⟨gb298, 4, none⟩) (Kd.R_far (p := ⟨gb298, 3, none⟩) (Kd.R_far (p := ⟨gb298, 2, none⟩) (Kd.R_far (p := ⟨gb298, 1, none⟩) (Kd.R_far (p := ⟨gb298, 0, none⟩) (Kd.R_types HO_8.out BK298.out (by decide)) (fun _ hk => hk.2) (.int .u64 (rd x8_3 0))) (fun _ hk => hk.2) (.int .u64 (rd x8_3 1))) (fun _ hk => hk.2) (.int .u64 (rd x8_3 2))) (fun _ hk => hk.2) (.int .u8 ((rd x8_3 3) % 256))) (fun _ hk => hk.2) (.string t288)) (fun _ hk => hk.2) (.string t290)) (fun _ hk => hk.2) (.int .i64 (wrap64 (rd x8_3 4)))) (fun _ hk => hk.2) (.int .i64 (wrap64 (rd x8_3 5)))) (fun _ h_ => h_.1))) hb); have n2_ := Aside0.mk (Kd.R_below (by (with_reducible repeat (first | apply Kd.R_alloc | apply Kd.R_drewN | apply Kd.R_drew)); exact (Kd.R_mono (Kd.R_far (p := ⟨gb298, 7, none⟩) (Kd.R_far (p := ⟨gb298, 6, none⟩) (Kd.R_far (p := ⟨gb298, 5, none⟩) (Kd.R_far (p := ⟨gb298, 4, none⟩) (Kd.R_far (p := ⟨gb298, 3, none⟩) (Kd.R_far (p := ⟨gb298, 2, none⟩) (Kd.R_far (p := ⟨gb298, 1, none⟩) (Kd.R_far (p := ⟨gb298, 0, none⟩) (Kd.R_types HO_9.out BK298.out (by decide)) (fun _ hk => hk.2) (.int .u64 (rd x8_3 0))) (fun _ hk => hk.2) (.int .u64 (rd x8_3 1))) (fun _ hk => hk.2) (.int .u64 (rd x8_3 2))) (fun _ hk => hk.2) (.int .u8 ((rd x8_3 3) % 256))) (fun _ hk => hk.2) (.string t288)) (fun _ hk => hk.2) (.string t290)) (fun _ hk => hk.2) (.int .i64 (wrap64 (rd x8_3 4)))) (fun _ hk => hk.2) (.int .i64 (wrap64 (rd x8_3 5)))) (fun _ h_ => h_.1))) hb); have n3_ := Aside0.mk (blk_below (g := gb298) (o := .cells #[.int .u64 (rd x8_3 0), .int .u64 (rd x8_3 1), .int .u64 (rd x8_3 2), .int .u8 ((rd x8_3 3) % 256), .string t288, .string t290, .int .i64 (wrap64 (rd x8_3 4)), .int .i64 (wrap64 (rd x8_3 5))] 77 (0, 0)) (by (with_reducible repeat (first | refine blk_drewN ?_ _ | refine blk_drew ?_ | refine blk_alloc ?_ _)); refine blk_put (cs := #[.int .u64 (rd x8_3 0), .int .u64 (rd x8_3 1), .int .u64 (rd x8_3 2), .int .u8 ((rd x8_3 3) % 256), .string t288, .string t290, .int .i64 (wrap64 (rd x8_3 4)), .int .i64 0]) ?_ 7 _ rfl; (with_reducible repeat (first | refine blk_drewN ?_ _ | refine blk_drew ?_ | refine blk_alloc ?_ _)); refine blk_put (cs := #[.int .u64 (rd x8_3 0), .int .u64 (rd x8_3 1), .int .u64 (rd x8_3 2), .int .u8 ((rd x8_3 3) % 256), .string t288, .string t290, .int .i64 0, .int .i64 0]) ?_ 6 _ rfl; (with_reducible repeat (first | refine blk_drewN ?_ _ | refine blk_drew ?_ | refine blk_alloc ?_ _)); refine blk_put (cs := #[.int .u64 (rd x8_3 0), .int .u64 (rd x8_3 1), .int .u64 (rd x8_3 2), .int .u8 ((rd x8_3 3) % 256), .string t288, .string (⟨#[]⟩ : ByteArray), .int .i64 0, .int .i64 0]) ?_ 5 _ rfl; (with_reducible repeat (first | refine blk_drewN ?_ _ | refine blk_drew ?_ | refine blk_alloc ?_ _)); refine blk_put (cs := #[.int .u64 (rd x8_3 0), .int .u64 (rd x8_3 1), .int .u64 (rd x8_3 2), .int .u8 ((rd x8_3 3) % 256), .string (⟨#[]⟩ : ByteArray), .string (⟨#[]⟩ : ByteArray), .int .i64 0, .int .i64 0]) ?_ 4 _ rfl; (with_reducible repeat (first | refine blk_drewN ?_ _ | refine blk_drew ?_ | refine blk_alloc ?_ _)); refine blk_put (cs := #[.int .u64 (rd x8_3 0), .int .u64 (rd x8_3 1), .int .u64 (rd x8_3 2), .int .u8 0, .string (⟨#[]⟩ : ByteArray), .string (⟨#[]⟩ : ByteArray), .int .i64 0, .int .i64 0]) ?_ 3 _ rfl; (with_reducible repeat (first | refine blk_drewN ?_ _ | refine blk_drew ?_ | refine blk_alloc ?_ _)); refine blk_put (cs := #[.int .u64 (rd x8_3 0), .int .u64 (rd x8_3 1), .int .u64 0, .int .u8 0, .string (⟨#[]⟩ : ByteArray), .string (⟨#[]⟩ : ByteArray), .int .i64 0, .int .i64 0]) ?_ 2 _ rfl; (with_reducible repeat (first | refine blk_drewN ?_ _ | refine blk_drew ?_ | refine blk_alloc ?_ _)); refine blk_put (cs := #[.int .u64 (rd x8_3 0), .int .u64 0, .int .u64 0, .int .u8 0, .string (⟨#[]⟩ : ByteArray), .string (⟨#[]⟩ : ByteArray), .int .i64 0, .int .i64 0]) ?_ 1 _ rfl; (with_reducible repeat (first | refine blk_drewN ?_ _ | refine blk_drew ?_ | refine blk_alloc ?_ _)); refine blk_put (cs := #[.int .u64 0, .int .u64 0, .int .u64 0, .int .u8 0, .string (⟨#[]⟩ : ByteArray), .string (⟨#[]⟩ : ByteArray), .int .i64 0, .int .i64 0]) ?_ 0 _ rfl; (with_reducible repeat (first | refine blk_drewN ?_ _ | refine blk_drew ?_ | refine blk_alloc ?_ _)); exact BK298.out) hb); have n4_ := Aside0.mk (below_step (by repeat (first | (with_reducible first | exact HB.out | apply below_alloc | apply pw_below_drewN | apply below_drew1 | refine below_set ?_ GE298.out) | exact HB.out)) hb); clear HO_6; clear HO_8; clear HO_9; clear BK298; clear HB; have HO_6 := n0_; have HO_8 := n1_; have HO_9 := n2_; have BK298 := n3_; have HB := n4_; clear n0_ n1_ n2_ n3_ n4_; (try clear hb); (try clear hb2); (try clear hk); (try clear hi)))
                                                  go_ret2
                                                  exact ⟨_, by first | rfl | (simp [errW_none, errW_some] <;> rfl) | (simp [*, errW_none, errW_some] <;> rfl), by first | exact Kd.R_nil _ _ _ _ _ | exact Kd.N_nil _ _ _ _ _ | exact Kd.V_nil _ _ _ _ _ | exact Kd.Q_nil _ _ _ _ _ | exact Kd.S_nil _ _ _ _ _, by repeat (first | (with_reducible first | exact HB.out | apply below_alloc | apply pw_below_drewN | apply below_drew1 | refine below_set ?_ GE298.out) | exact HB.out)⟩
                                              · rw [if_neg c34] at H
                                                exact absurd H (by simp)
                                            · rw [if_neg c33] at H
                                              exact absurd H (by simp)
                                          · rw [if_neg c32] at H
                                            exact absurd H (by simp)
                                        · rw [if_neg c31] at H
                                          exact absurd H (by simp)
                                      · rw [if_neg c30] at H
                                        exact absurd H (by simp)
                                    · rw [if_neg c29] at H
                                      exact absurd H (by simp)
                                  · replace c28 := Bool.eq_false_iff.mpr c28
                                    subst c28
                                    have H1 : (some (([] : List (S77)), 3)) = some (r1, r2) := by rw [if_neg (show ¬ (false = true) by decide)] at H; exact H
                                    clear H
                                    have H := H1
                                    clear H1
                                    simp only [Option.some.injEq, Prod.mk.injEq] at H
                                    obtain ⟨rfl, rfl⟩ := H
                                    obtain ⟨Ao72, co72, eo72⟩ := Kd.R_slice HO_9.out
                                    subst eo72
                                    go_wp2_with (first | ((with_reducible refine gate_callee (f := 50) rfl ?_); refine goesL_ (some 88) rfl rfl Try.func50 (by kernel_rfl) rfl #[.string a0, .int .i64 x10_3] rfl (by (try simp only [List.map_toArray, List.map_cons, List.map_nil]); first | done | rfl | (simp only [List.length_drop, List.length_take]; rfl)) ?_; (with_reducible refine (merkhetref02_GetText.calls k3 a0 x10_3 t288 true _ A25.out).mono ?_); rintro e w73 ⟨rfl, hb⟩; refine ⟨_, rfl, ?_⟩; have n0_ := Aside0.mk (Kd.R_below (by (with_reducible repeat (first | apply Kd.R_alloc | apply Kd.R_drewN | apply Kd.R_drew)); exact HO_6.out) hb); have n1_ := Aside0.mk (Kd.R_below (by (with_reducible repeat (first | apply Kd.R_alloc | apply Kd.R_drewN | apply Kd.R_drew)); exact HO_8.out) hb); have n2_ := Aside0.mk (Kd.R_below (by (with_reducible repeat (first | apply Kd.R_alloc | apply Kd.R_drewN | apply Kd.R_drew)); exact HO_9.out) hb); have n3_ := Aside0.mk (below_step (by repeat (first | (with_reducible first | exact HB.out | apply below_alloc | apply pw_below_drewN | apply below_drew1) | exact HB.out)) hb); clear HO_6; clear HO_8; clear HO_9; clear HB; have HO_6 := n0_; have HO_8 := n1_; have HO_9 := n2_; have HB := n3_; clear n0_ n1_ n2_ n3_; (try clear hb); (try clear hb2); (try clear hk); (try clear hi)) | ((with_reducible refine gate_callee (f := 50) rfl ?_); refine goesL_ (some 97) rfl rfl Try.func50 (by kernel_rfl) rfl #[.string a0, .int .i64 (wrap64 (x10_3 + 17))] rfl (by (try simp only [List.map_toArray, List.map_cons, List.map_nil]); first | done | rfl | (simp only [List.length_drop, List.length_take]; rfl)) ?_; (with_reducible refine (merkhetref02_GetText.calls k3 a0 (wrap64 (x10_3 + 17)) t290 false _ A27.out).mono ?_); rintro e w74 ⟨rfl, hb⟩; refine ⟨_, rfl, ?_⟩; have n0_ := Aside0.mk (Kd.R_below (by (with_reducible repeat (first | apply Kd.R_alloc | apply Kd.R_drewN | apply Kd.R_drew)); exact HO_6.out) hb); have n1_ := Aside0.mk (Kd.R_below (by (with_reducible repeat (first | apply Kd.R_alloc | apply Kd.R_drewN | apply Kd.R_drew)); exact HO_8.out) hb); have n2_ := Aside0.mk (Kd.R_below (by (with_reducible repeat (first | apply Kd.R_alloc | apply Kd.R_drewN | apply Kd.R_drew)); exact HO_9.out) hb); have n3_ := Aside0.mk (below_step (by repeat (first | (with_reducible first | exact HB.out | apply below_alloc | apply pw_below_drewN | apply below_drew1) | exact HB.out)) hb); clear HO_6; clear HO_8; clear HO_9; clear HB; have HO_6 := n0_; have HO_8 := n1_; have HO_9 := n2_; have HB := n3_; clear n0_ n1_ n2_ n3_; (try clear hb); (try clear hb2); (try clear hk); (try clear hi)))
                                    go_ret2
                                    exact ⟨_, by first | rfl | (simp [errW_none, errW_some] <;> rfl) | (simp [*, errW_none, errW_some] <;> rfl), by first | exact Kd.R_nil _ _ _ _ _ | exact Kd.N_nil _ _ _ _ _ | exact Kd.V_nil _ _ _ _ _ | exact Kd.Q_nil _ _ _ _ _ | exact Kd.S_nil _ _ _ _ _, by repeat (first | (with_reducible first | exact HB.out | apply below_alloc | apply pw_below_drewN | apply below_drew1) | exact HB.out)⟩
                                · replace c26 := Bool.eq_false_iff.mpr c26
                                  subst c26
                                  have H1 : (some (([] : List (S77)), 3)) = some (r1, r2) := by rw [if_neg (show ¬ (false = true) by decide)] at H; exact H
                                  clear H
                                  have H := H1
                                  clear H1
                                  simp only [Option.some.injEq, Prod.mk.injEq] at H
                                  obtain ⟨rfl, rfl⟩ := H
                                  obtain ⟨Ao75, co75, eo75⟩ := Kd.R_slice HO_9.out
                                  subst eo75
                                  go_wp2_with (first | ((with_reducible refine gate_callee (f := 50) rfl ?_); refine goesL_ (some 88) rfl rfl Try.func50 (by kernel_rfl) rfl #[.string a0, .int .i64 x10_3] rfl (by (try simp only [List.map_toArray, List.map_cons, List.map_nil]); first | done | rfl | (simp only [List.length_drop, List.length_take]; rfl)) ?_; (with_reducible refine (merkhetref02_GetText.calls k3 a0 x10_3 t288 false _ A25.out).mono ?_); rintro e w76 ⟨rfl, hb⟩; refine ⟨_, rfl, ?_⟩; have n0_ := Aside0.mk (Kd.R_below (by (with_reducible repeat (first | apply Kd.R_alloc | apply Kd.R_drewN | apply Kd.R_drew)); exact HO_6.out) hb); have n1_ := Aside0.mk (Kd.R_below (by (with_reducible repeat (first | apply Kd.R_alloc | apply Kd.R_drewN | apply Kd.R_drew)); exact HO_8.out) hb); have n2_ := Aside0.mk (Kd.R_below (by (with_reducible repeat (first | apply Kd.R_alloc | apply Kd.R_drewN | apply Kd.R_drew)); exact HO_9.out) hb); have n3_ := Aside0.mk (below_step (by repeat (first | (with_reducible first | exact HB.out | apply below_alloc | apply pw_below_drewN | apply below_drew1) | exact HB.out)) hb); clear HO_6; clear HO_8; clear HO_9; clear HB; have HO_6 := n0_; have HO_8 := n1_; have HO_9 := n2_; have HB := n3_; clear n0_ n1_ n2_ n3_; (try clear hb); (try clear hb2); (try clear hk); (try clear hi)))
                                  go_ret2
                                  exact ⟨_, by first | rfl | (simp [errW_none, errW_some] <;> rfl) | (simp [*, errW_none, errW_some] <;> rfl), by first | exact Kd.R_nil _ _ _ _ _ | exact Kd.N_nil _ _ _ _ _ | exact Kd.V_nil _ _ _ _ _ | exact Kd.Q_nil _ _ _ _ _ | exact Kd.S_nil _ _ _ _ _, by repeat (first | (with_reducible first | exact HB.out | apply below_alloc | apply pw_below_drewN | apply below_drew1) | exact HB.out)⟩
                        · rw [if_neg c14] at H
                          have c14b0 : decide (x7_2 < (a0.size : Int)) = false := decide_eq_false c14
                          clear c14
                          simp only [Option.some.injEq, Prod.mk.injEq] at H
                          obtain ⟨rfl, rfl⟩ := H
                          go_wp2
                          go_ret2
                          exact ⟨_, by first | rfl | (simp [errW_none, errW_some] <;> rfl) | (simp [*, errW_none, errW_some] <;> rfl), by (with_reducible repeat (first | apply Kd.R_alloc | apply Kd.R_drewN | apply Kd.R_drew)); exact HO_6.out, by repeat (first | (with_reducible first | exact HB.out | apply below_alloc | apply pw_below_drewN | apply below_drew1) | exact HB.out)⟩
        · rw [if_neg c5] at H
          have c5b0 : ((a0.extract 0 4).toList == ([83, 80, 65, 78] : List UInt8)) = false := beq_eq_false_iff_ne.mpr c5
          have c5b1 : ((a0.extract 0 4).toList != ([83, 80, 65, 78] : List UInt8)) = true := bne_iff_ne.mpr c5
          simp only [Option.some.injEq, Prod.mk.injEq] at H
          obtain ⟨rfl, rfl⟩ := H
          go_enter Try.func30, Try.ntmps30
          go_wp2
          go_ret2
          exact ⟨_, by first | rfl | (simp [errW_none, errW_some] <;> rfl) | (simp [*, errW_none, errW_some] <;> rfl), by first | exact Kd.R_nil _ _ _ _ _ | exact Kd.N_nil _ _ _ _ _ | exact Kd.V_nil _ _ _ _ _ | exact Kd.Q_nil _ _ _ _ _ | exact Kd.S_nil _ _ _ _ _, by repeat (first | (with_reducible first | exact HB.out | apply below_alloc | apply pw_below_drewN | apply below_drew1) | exact HB.out)⟩
      · rw [if_neg c4] at H
        exact absurd H (by simp)
    · rw [if_neg c3] at H
      exact absurd H (by simp)
end Go.Proofs.Ytdpodjgggicaoaa.SS
