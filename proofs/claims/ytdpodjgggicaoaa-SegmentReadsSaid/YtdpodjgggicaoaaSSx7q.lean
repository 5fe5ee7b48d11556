-- WRITTEN FOR THIS CLAIM by wip/tools/mp.py, a program of this project that drives the kit's print; the functions that the print does not take are this project's own texts.
import Derived.Test.YtdpodjgggicaoaaSSx0q
import Derived.Test.YtdpodjgggicaoaaSSx1q
import Derived.Test.YtdpodjgggicaoaaSSx6q
namespace Go.Proofs.Ytdpodjgggicaoaa.SS
open Go.RowKit Go.Proofs.YtdpodjgggicaoaaW.PrintWords Go.Proofs.YtdpodjgggicaoaaW.PrintLast Go.Proofs.YtdpodjgggicaoaaW.PrintMore
attribute [local go_sem] max2_int min2_int max_two min_two max_three min_three max_four min_four   -- for this text's walks alone
set_option linter.unusedVariables false
set_option linter.unusedSimpArgs false
mutual
def merkhetref06_Get.j0 : Nat → ByteArray → Int → Bool → Option (ByteArray × Int × Int)
  | 0, _, _, _ => none
  | k + 1, x0, x1, x19 => if x19 = true then (some ((⟨#[]⟩ : ByteArray), 0, 5)) else (if 0 ≤ x1 then (if x1 ≤ (x0.size : Int) then (if ((x0.extract (x1 : Int).toNat x0.size).size : Int) < 6 then (some ((⟨#[]⟩ : ByteArray), 0, 2)) else ((merkhetref02_Get.f k (x0.extract (x1 : Int).toNat x0.size) 0 2).bind fun bt252 => (if bt252.1 = 0 then (merkhetref06_Get.j1 k (x0.extract (x1 : Int).toNat x0.size) x1 bt252.1 true) else (merkhetref06_Get.j1 k (x0.extract (x1 : Int).toNat x0.size) x1 bt252.1 (decide (bt252.1 > 2406)))))) else (none)) else (none))
def merkhetref06_Get.j1 : Nat → ByteArray → Int → Int → Bool → Option (ByteArray × Int × Int)
  | 0, _, _, _, _ => none
  | k + 1, x0, x1, x7, x36 => if x36 = true then (some ((⟨#[]⟩ : ByteArray), 0, 3)) else (if (x0.size : Int) < (wrap64 (6 + (wrap64 (x7)))) then (some ((⟨#[]⟩ : ByteArray), 0, 2)) else (if 6 ≤ (wrap64 (6 + (wrap64 (x7)))) then (if (wrap64 (6 + (wrap64 (x7)))) ≤ (x0.size : Int) then ((merkhetref06_Put.f k (x0.extract 6 ((wrap64 (6 + (wrap64 (x7)))) : Int).toNat)).bind fun bt254 => (if 0 ≤ (wrap64 (6 + (wrap64 (x7)))) then (if bt254.1.toList = (x0.extract 0 ((wrap64 (6 + (wrap64 (x7)))) : Int).toNat).toList then (some (x0.extract 6 ((wrap64 (6 + (wrap64 (x7)))) : Int).toNat, wrap64 ((wrap64 (x1 + 6)) + (wrap64 (x7))), 0)) else (some ((⟨#[]⟩ : ByteArray), 0, 8))) else (none))) else (none)) else (none)))
end
def merkhetref06_Get.f (k : Nat) (a0 : ByteArray) (a1 : Int) : Option (ByteArray × Int × Int) := if a1 < 0 then (merkhetref06_Get.j0 k a0 a1 true) else (merkhetref06_Get.j0 k a0 a1 (decide (a1 ≥ (a0.size : Int))))
theorem merkhetref06_Get.mono_l : ∀ k, (∀ y0 y1 y2, LeO (merkhetref06_Get.j0 k y0 y1 y2) (merkhetref06_Get.j0 (k + 1) y0 y1 y2)) ∧ (∀ y0 y1 y2 y3, LeO (merkhetref06_Get.j1 k y0 y1 y2 y3) (merkhetref06_Get.j1 (k + 1) y0 y1 y2 y3))
  | 0 => ⟨fun _ _ _ r h => by simp [merkhetref06_Get.j0] at h, fun _ _ _ _ r h => by simp [merkhetref06_Get.j1] at h⟩
  | k + 1 => by
    obtain ⟨ih0, ih1⟩ := merkhetref06_Get.mono_l k
    refine ⟨?_, ?_⟩
    · intro y0 y1 y2
      unfold merkhetref06_Get.j0
      repeat' first
      | (with_reducible exact ih0 _ _ _)
      | (with_reducible exact ih1 _ _ _ _)
      | (with_reducible exact merkhetref02_Get.mono _ _ _ _)
      | (with_reducible exact merkhetref06_Put.mono _ _)
      | (with_reducible exact LeO.refl _)
      | (with_reducible exact LeO.none _)
      | (with_reducible refine LeO.ite ?_ ?_)
      | (with_reducible refine LeO.bind ?_ (fun _ => ?_))
      | exact ih0 _ _ _
      | exact ih1 _ _ _ _
      | exact merkhetref02_Get.mono _ _ _ _
      | exact merkhetref06_Put.mono _ _
      | exact LeO.none _
      | refine LeO.ite ?_ ?_
      | refine LeO.bind ?_ (fun _ => ?_)
    · intro y0 y1 y2 y3
      unfold merkhetref06_Get.j1
      repeat' first
      | (with_reducible exact ih0 _ _ _)
      | (with_reducible exact ih1 _ _ _ _)
      | (with_reducible exact merkhetref02_Get.mono _ _ _ _)
      | (with_reducible exact merkhetref06_Put.mono _ _)
      | (with_reducible exact LeO.refl _)
      | (with_reducible exact LeO.none _)
      | (with_reducible refine LeO.ite ?_ ?_)
      | (with_reducible refine LeO.bind ?_ (fun _ => ?_))
      | exact ih0 _ _ _
      | exact ih1 _ _ _ _
      | exact merkhetref02_Get.mono _ _ _ _
      | exact merkhetref06_Put.mono _ _
      | exact LeO.none _
      | refine LeO.ite ?_ ?_
      | refine LeO.bind ?_ (fun _ => ?_)
theorem merkhetref06_Get.mono : ∀ a0 a1 k, LeO (merkhetref06_Get.f k a0 a1) (merkhetref06_Get.f (k + 1) a0 a1) := by
  intro a0 a1 k
  obtain ⟨ih0, ih1⟩ := merkhetref06_Get.mono_l k
  unfold merkhetref06_Get.f
  repeat' first
      | (with_reducible exact ih0 _ _ _)
      | (with_reducible exact ih1 _ _ _ _)
      | (with_reducible exact merkhetref02_Get.mono _ _ _ _)
      | (with_reducible exact merkhetref06_Put.mono _ _)
      | (with_reducible exact LeO.refl _)
      | (with_reducible exact LeO.none _)
      | (with_reducible refine LeO.ite ?_ ?_)
      | (with_reducible refine LeO.bind ?_ (fun _ => ?_))
      | exact ih0 _ _ _
      | exact ih1 _ _ _ _
      | exact merkhetref02_Get.mono _ _ _ _
      | exact merkhetref06_Put.mono _ _
      | exact LeO.none _
      | refine LeO.ite ?_ ?_
      | refine LeO.bind ?_ (fun _ => ?_)
set_option maxHeartbeats 8000000 in
set_option maxRecDepth 100000 in
theorem merkhetref06_Get.calls (k : Nat) (a0 : ByteArray) (a1 : Int) (r1 : ByteArray) (r2 : Int) (r3 : Int) (w : World) (h : merkhetref06_Get.f k a0 a1 = some (r1, r2, r3)) :
    Calls Try.prog 23 #[.string a0, .int .i64 a1] w fun e w' => e = .returned (.tuple #[.string r1, .int .i64 r2, .int .i64 r3]) ∧ Below w.heap.size w w' := by
  have HB := Aside0.mk (Below.refl w.heap.size w)
  have H : (if a1 < 0 then (merkhetref06_Get.j0 k a0 a1 true) else (merkhetref06_Get.j0 k a0 a1 (decide (a1 ≥ (a0.size : Int))))) = some (r1, r2, r3) := h
  clear h
  have HC3 := Aside0.mk H
  clear H
  go_enter Try.func23, Try.ntmps23
  go_upto_region 1 with (fail)
  go_cut [19] (fun v19 wc => ∃ (kq : Nat) (x19_2 : Bool), v19 = .bool x19_2 ∧ Aside0 (merkhetref06_Get.j0 kq a0 a1 x19_2 = some (r1, r2, r3)) ∧ Aside0 (kq ≤ k) ∧ Aside0 (Below w.heap.size w wc))
  case first =>
    have H := HC3.out
    clear HC3
    by_cases c4 : a1 < 0
    · rw [if_pos c4] at H
      have c4b0 : decide (a1 < 0) = true := decide_eq_true c4
      clear c4
      (first | rw [c4b0] | (simp only [i64_w, i32_w]; rw [c4b0]) | skip)
      have H' := Aside0.mk H
      clear H
      go_wp2
      go_meet
      case rel => exact ⟨_, (true), (by first | rfl | (simp; done) | (simp [*]; done)), H', ⟨by first | omega | exact Nat.le_refl _⟩, ⟨by repeat (first | (with_reducible first | exact HB.out | apply below_alloc | apply pw_below_drewN | apply below_drew1) | exact HB.out)⟩⟩
    · rw [if_neg c4] at H
      have c4b0 : decide (a1 < 0) = false := decide_eq_false c4
      clear c4
      (first | rw [c4b0] | (simp only [i64_w, i32_w]; rw [c4b0]) | skip)
      have H' := Aside0.mk H
      clear H
      go_wp2
      go_meet
      case rel => exact ⟨_, (decide (a1 ≥ (a0.size : Int))), (by first | rfl | (simp; done) | (simp [*]; done)), H', ⟨by first | omega | exact Nat.le_refl _⟩, ⟨by repeat (first | (with_reducible first | exact HB.out | apply below_alloc | apply pw_below_drewN | apply below_drew1) | exact HB.out)⟩⟩
  case rest =>
    clear HC3
    try clear c2
    try clear p2
    try clear c4
    try clear c4b0
    obtain ⟨kq, x19_2, rfl, HA, HJ2, HB⟩ := hcut
    cases kq with
    | zero => exact absurd HA.out (by simp [merkhetref06_Get.j0])
    | succ kj2 =>
      have H := HA.out
      clear HA
      simp only [merkhetref06_Get.j0] at H
      by_cases c5 : x19_2 = true
      · subst c5
        have H1 : (some ((⟨#[]⟩ : ByteArray), 0, 5)) = some (r1, r2, r3) := by rw [if_pos rfl] at H; exact H
        clear H
        have H := H1
        clear H1
        simp only [Option.some.injEq, Prod.mk.injEq] at H
        obtain ⟨rfl, rfl, rfl⟩ := H
        go_wp2
        go_ret3
        exact ⟨by first | rfl | (simp [errW_none, errW_some] <;> rfl) | (simp [*, errW_none, errW_some] <;> rfl), by repeat (first | (with_reducible first | exact HB.out | apply below_alloc | apply pw_below_drewN | apply below_drew1) | exact HB.out)⟩
      · replace c5 := Bool.eq_false_iff.mpr c5
        subst c5
        have H1 : (if 0 ≤ a1 then (if a1 ≤ (a0.size : Int) then (if ((a0.extract (a1 : Int).toNat a0.size).size : Int) < 6 then (some ((⟨#[]⟩ : ByteArray), 0, 2)) else ((merkhetref02_Get.f kj2 (a0.extract (a1 : Int).toNat a0.size) 0 2).bind fun bt252 => (if bt252.1 = 0 then (merkhetref06_Get.j1 kj2 (a0.extract (a1 : Int).toNat a0.size) a1 bt252.1 true) else (merkhetref06_Get.j1 kj2 (a0.extract (a1 : Int).toNat a0.size) a1 bt252.1 (decide (bt252.1 > 2406)))))) else (none)) else (none)) = some (r1, r2, r3) := by rw [if_neg (show ¬ (false = true) by decide)] at H; exact H
        clear H
        have H := H1
        clear H1
        by_cases c6 : 0 ≤ a1
        · rw [if_pos c6] at H
          have c6b0 := eq_true c6
          have c6b1 : decide (0 ≤ a1) = true := decide_eq_true c6
          clear c6
          by_cases c7 : a1 ≤ (a0.size : Int)
          · rw [if_pos c7] at H
            have c7b0 := eq_true c7
            have c7b1 : decide (a1 ≤ (a0.size : Int)) = true := decide_eq_true c7
            clear c7
            obtain ⟨sx0_, hsx_, hsxrsx0_⟩ : ∃ s_ : ByteArray, a0.extract (a1 : Int).toNat a0.size = s_ ∧ (∀ W_ : World, (Instr.slice 9 (.string a0) (some (.int .i64 a1)) none none).run Try.prog W_ = .ok (.string s_) W_) := ⟨_, rfl, fun W_ => by simp [go_sem, Try.underlying9, *]⟩
            rw [hsx_] at H
            have Nsx0_ := Aside0.mk hsx_
            clear hsx_
            by_cases c8 : (sx0_.size : Int) < 6
            · rw [if_pos c8] at H
              have c8b0 : decide ((sx0_.size : Int) < 6) = true := decide_eq_true c8
              have c8b1 : decide (sx0_.size < 6) = true := decide_eq_true (by omega)
              clear c8
              simp only [Option.some.injEq, Prod.mk.injEq] at H
              obtain ⟨rfl, rfl, rfl⟩ := H
              go_wp2
              go_ret3
              exact ⟨by first | rfl | (simp [errW_none, errW_some] <;> rfl) | (simp [*, errW_none, errW_some] <;> rfl), by repeat (first | (with_reducible first | exact HB.out | apply below_alloc | apply pw_below_drewN | apply below_drew1) | exact HB.out)⟩
            · rw [if_neg c8] at H
              have c8b0 : decide ((sx0_.size : Int) < 6) = false := decide_eq_false c8
              have c8b1 : decide (sx0_.size < 6) = false := decide_eq_false (by omega)
              clear c8
              replace H := Option.bind_eq_some_iff.mp H
              obtain ⟨⟨t252, t253⟩, A90, H⟩ := H
              replace H : (if t252 = 0 then (merkhetref06_Get.j1 kj2 sx0_ a1 t252 true) else (merkhetref06_Get.j1 kj2 sx0_ a1 t252 (decide (t252 > 2406)))) = some (r1, r2, r3) := H
              have A9 := Aside0.mk A90
              clear A90
              have HC10 := Aside0.mk H
              clear H
              go_upto_region 7 with (first | ((with_reducible refine gate_callee (f := 45) rfl ?_); refine goesL_ (some 28) rfl rfl Try.func45 (by kernel_rfl) rfl #[.string sx0_, .int .i64 0, .int .i64 2] rfl (by (try simp only [List.map_toArray, List.map_cons, List.map_nil]); first | done | rfl | (simp only [List.length_drop, List.length_take]; rfl)) ?_; (with_reducible refine (merkhetref02_Get.calls kj2 sx0_ 0 2 t252 t253 _ A9.out).mono ?_); rintro e w' ⟨rfl, ⟨nd, rfl⟩⟩; refine ⟨_, rfl, ?_⟩))
              (try simp only [Act.put, List.setIfInBounds_toArray, List.set_cons_zero, List.set_cons_succ])
              go_cut [36] (fun v36 wc => ∃ (kq : Nat) (x36_9 : Bool), v36 = .bool x36_9 ∧ Aside0 (merkhetref06_Get.j1 kq sx0_ a1 t252 x36_9 = some (r1, r2, r3)) ∧ Aside0 (kq ≤ kj2) ∧ Aside0 (Below w.heap.size w wc))
              case first =>
                have H := HC10.out
                clear HC10
                by_cases c11 : t252 = 0
                · rw [if_pos c11] at H
                  have c11b0 : (t252 == 0) = true := beq_iff_eq.mpr c11
                  have c11b1 : (t252 != 0) = false := bne_eq_false_iff_eq.mpr c11
                  clear c11
                  (first | rw [c11b0] | (simp only [i64_w, i32_w]; rw [c11b0]) | skip)
                  have H' := Aside0.mk H
                  clear H
                  go_wp2
                  go_meet
                  case rel => exact ⟨_, (true), (by first | rfl | (simp; done) | (simp [*]; done)), H', ⟨by have := HJ2.out; first | omega | exact Nat.le_refl _⟩, ⟨by repeat (first | (with_reducible first | exact HB.out | apply below_alloc | apply pw_below_drewN | apply below_drew1) | exact HB.out)⟩⟩
                · rw [if_neg c11] at H
                  have c11b0 : (t252 == 0) = false := beq_eq_false_iff_ne.mpr c11
                  have c11b1 : (t252 != 0) = true := bne_iff_ne.mpr c11
                  (first | rw [c11b0] | (simp only [i64_w, i32_w]; rw [c11b0]) | skip)
                  have H' := Aside0.mk H
                  clear H
                  go_wp2
                  go_meet
                  case rel => exact ⟨_, (decide (t252 > 2406)), (by first | rfl | (simp; done) | (simp [*]; done)), H', ⟨by have := HJ2.out; first | omega | exact Nat.le_refl _⟩, ⟨by repeat (first | (with_reducible first | exact HB.out | apply below_alloc | apply pw_below_drewN | apply below_drew1) | exact HB.out)⟩⟩
              case rest =>
                clear HC10
                try clear c1
                try clear c2
                try clear p2
                try clear c4
                try clear c4b0
                try clear c5
                try clear c6
                try clear c6b0
                try clear c6b1
                try clear c7
                try clear c7b0
                try clear c7b1
                try clear c8
                try clear c8b0
                try clear c8b1
                try clear c11
                try clear c11b0
                try clear c11b1
                try clear p2
                obtain ⟨kq, x36_9, rfl, HA, HJ9, HB⟩ := hcut
                cases kq with
                | zero => exact absurd HA.out (by simp [merkhetref06_Get.j1])
                | succ kj9 =>
                  have H := HA.out
                  clear HA
                  simp only [merkhetref06_Get.j1] at H
                  by_cases c12 : x36_9 = true
                  · subst c12
                    have H1 : (some ((⟨#[]⟩ : ByteArray), 0, 3)) = some (r1, r2, r3) := by rw [if_pos rfl] at H; exact H
                    clear H
                    have H := H1
                    clear H1
                    simp only [Option.some.injEq, Prod.mk.injEq] at H
                    obtain ⟨rfl, rfl, rfl⟩ := H
                    go_wp2
                    go_ret3
                    exact ⟨by first | rfl | (simp [errW_none, errW_some] <;> rfl) | (simp [*, errW_none, errW_some] <;> rfl), by repeat (first | (with_reducible first | exact HB.out | apply below_alloc | apply pw_below_drewN | apply below_drew1) | exact HB.out)⟩
                  · replace c12 := Bool.eq_false_iff.mpr c12
                    subst c12
                    have H1 : (if (sx0_.size : Int) < (wrap64 (6 + (wrap64 (t252)))) then (some ((⟨#[]⟩ : ByteArray), 0, 2)) else (if 6 ≤ (wrap64 (6 + (wrap64 (t252)))) then (if (wrap64 (6 + (wrap64 (t252)))) ≤ (sx0_.size : Int) then ((merkhetref06_Put.f kj9 (sx0_.extract 6 ((wrap64 (6 + (wrap64 (t252)))) : Int).toNat)).bind fun bt254 => (if 0 ≤ (wrap64 (6 + (wrap64 (t252)))) then (if bt254.1.toList = (sx0_.extract 0 ((wrap64 (6 + (wrap64 (t252)))) : Int).toNat).toList then (some (sx0_.extract 6 ((wrap64 (6 + (wrap64 (t252)))) : Int).toNat, wrap64 ((wrap64 (a1 + 6)) + (wrap64 (t252))), 0)) else (some ((⟨#[]⟩ : ByteArray), 0, 8))) else (none))) else (none)) else (none))) = some (r1, r2, r3) := by rw [if_neg (show ¬ (false = true) by decide)] at H; exact H
                    clear H
                    have H := H1
                    clear H1
                    by_cases c13 : (sx0_.size : Int) < (wrap64 (6 + (wrap64 (t252))))
                    · rw [if_pos c13] at H
                      have c13b0 : decide ((sx0_.size : Int) < (wrap64 (6 + (wrap64 (t252))))) = true := decide_eq_true c13
                      clear c13
                      simp only [Option.some.injEq, Prod.mk.injEq] at H
                      obtain ⟨rfl, rfl, rfl⟩ := H
                      go_wp2
                      go_ret3
                      exact ⟨by first | rfl | (simp [errW_none, errW_some] <;> rfl) | (simp [*, errW_none, errW_some] <;> rfl), by repeat (first | (with_reducible first | exact HB.out | apply below_alloc | apply pw_below_drewN | apply below_drew1) | exact HB.out)⟩
                    · rw [if_neg c13] at H
                      have c13b0 : decide ((sx0_.size : Int) < (wrap64 (6 + (wrap64 (t252))))) = false := decide_eq_false c13
                      clear c13
                      by_cases c14 : 6 ≤ (wrap64 (6 + (wrap64 (t252))))
                      · rw [if_pos c14] at H
                        have c14b0 := eq_true c14
                        have c14b1 : decide (6 ≤ (wrap64 (6 + (wrap64 (t252))))) = true := decide_eq_true c14
                        by_cases c15 : (wrap64 (6 + (wrap64 (t252)))) ≤ (sx0_.size : Int)
                        · rw [if_pos c15] at H
                          have c15b0 := eq_true c15
                          have c15b1 : decide ((wrap64 (6 + (wrap64 (t252)))) ≤ (sx0_.size : Int)) = true := decide_eq_true c15
                          replace H := Option.bind_eq_some_iff.mp H
                          obtain ⟨⟨t254, t255⟩, A160, H⟩ := H
                          replace H : (if 0 ≤ (wrap64 (6 + (wrap64 (t252)))) then (if t254.toList = (sx0_.extract 0 ((wrap64 (6 + (wrap64 (t252)))) : Int).toNat).toList then (some (sx0_.extract 6 ((wrap64 (6 + (wrap64 (t252)))) : Int).toNat, wrap64 ((wrap64 (a1 + 6)) + (wrap64 (t252))), 0)) else (some ((⟨#[]⟩ : ByteArray), 0, 8))) else (none)) = some (r1, r2, r3) := H
                          have A16 := Aside0.mk A160
                          clear A160
                          obtain ⟨ji17, hji17⟩ : ∃ j_ : Int, (wrap64 (6 + (wrap64 (t252)))) = j_ := ⟨_, rfl⟩
                          replace H : (if 0 ≤ (ji17) then (if t254.toList = (sx0_.extract 0 ((ji17) : Int).toNat).toList then (some (sx0_.extract 6 ((ji17) : Int).toNat, wrap64 ((wrap64 (a1 + 6)) + (wrap64 (t252))), 0)) else (some ((⟨#[]⟩ : ByteArray), 0, 8))) else (none)) = some (r1, r2, r3) := by first | (rw [hji17] at H; exact H) | (simp only [hji17] at H ⊢; exact H)
                          (try rw [hji17] at c13b0)
                          (try rw [hji17] at c14b0)
                          (try rw [hji17] at c14b1)
                          (try rw [hji17] at c14)
                          (try rw [hji17] at c15b0)
                          (try rw [hji17] at c15b1)
                          (try rw [hji17] at c15)
                          (try rw [hji17] at A16)
                          have hji17w : (IntKind.i64.wrap (6 + (wrap64 (t252)))) = ji17 := (i64_w _).trans hji17
                          by_cases c18 : 0 ≤ (ji17)
                          · rw [if_pos c18] at H
                            have c18b0 := eq_true c18
                            have c18b1 : decide (0 ≤ (ji17)) = true := decide_eq_true c18
                            clear c18
                            have c19b0 := eq_true (of_decide_eq_true (by first | (with_reducible assumption) | assumption) : (ji17) ≤ (sx0_.size : Int))
                            by_cases c20 : t254.toList = (sx0_.extract 0 ((ji17) : Int).toNat).toList
                            · rw [if_pos c20] at H
                              have c20b0 : (t254.toList == (sx0_.extract 0 ((ji17) : Int).toNat).toList) = true := beq_iff_eq.mpr c20
                              have c20b1 : (t254.toList != (sx0_.extract 0 ((ji17) : Int).toNat).toList) = false := bne_eq_false_iff_eq.mpr c20
                              clear c20
                              simp only [Option.some.injEq, Prod.mk.injEq] at H
                              obtain ⟨rfl, rfl, rfl⟩ := H
                              go_wp2_with (first | ((with_reducible refine gate_callee (f := 21) rfl ?_); refine goesL_ (some 50) rfl rfl Try.func21 (by kernel_rfl) rfl #[.string (sx0_.extract 6 ((ji17) : Int).toNat)] rfl (by (try simp only [List.map_toArray, List.map_cons, List.map_nil]); first | done | (simp only [hji17]; rfl) | rfl | (simp only [List.length_drop, List.length_take]; rfl)) ?_; (with_reducible refine (merkhetref06_Put.calls kj9 (sx0_.extract 6 ((ji17) : Int).toNat) t254 t255 _ A16.out).mono ?_); rintro e w21 ⟨rfl, hb⟩; refine ⟨_, rfl, ?_⟩; have n0_ := Aside0.mk (below_step (by repeat (first | (with_reducible first | exact HB.out | apply below_alloc | apply pw_below_drewN | apply below_drew1) | exact HB.out)) hb); clear HB; have HB := n0_; clear n0_; (try clear hb); (try clear hb2); (try clear hk); (try clear hi)))
                              go_ret3
                              exact ⟨by first | rfl | (simp [errW_none, errW_some] <;> rfl) | (simp only [← hji17]; first | rfl | (simp [errW_none, errW_some] <;> rfl)) | (simp [*, errW_none, errW_some] <;> rfl), by repeat (first | (with_reducible first | exact HB.out | apply below_alloc | apply pw_below_drewN | apply below_drew1) | exact HB.out)⟩
                            · rw [if_neg c20] at H
                              have c20b0 : (t254.toList == (sx0_.extract 0 ((ji17) : Int).toNat).toList) = false := beq_eq_false_iff_ne.mpr c20
                              have c20b1 : (t254.toList != (sx0_.extract 0 ((ji17) : Int).toNat).toList) = true := bne_iff_ne.mpr c20
                              simp only [Option.some.injEq, Prod.mk.injEq] at H
                              obtain ⟨rfl, rfl, rfl⟩ := H
                              go_wp2_with (first | ((with_reducible refine gate_callee (f := 21) rfl ?_); refine goesL_ (some 50) rfl rfl Try.func21 (by kernel_rfl) rfl #[.string (sx0_.extract 6 ((ji17) : Int).toNat)] rfl (by (try simp only [List.map_toArray, List.map_cons, List.map_nil]); first | done | (simp only [hji17]; rfl) | rfl | (simp only [List.length_drop, List.length_take]; rfl)) ?_; (with_reducible refine (merkhetref06_Put.calls kj9 (sx0_.extract 6 ((ji17) : Int).toNat) t254 t255 _ A16.out).mono ?_); rintro e w22 ⟨rfl, hb⟩; refine ⟨_, rfl, ?_⟩; have n0_ := Aside0.mk (below_step (by repeat (first | (with_reducible first | exact HB.out | apply below_alloc | apply pw_below_drewN | apply below_drew1) | exact HB.out)) hb); clear HB; have HB := n0_; clear n0_; (try clear hb); (try clear hb2); (try clear hk); (try clear hi)))
                              go_ret3
                              exact ⟨by first | rfl | (simp [errW_none, errW_some] <;> rfl) | (simp only [← hji17]; first | rfl | (simp [errW_none, errW_some] <;> rfl)) | (simp [*, errW_none, errW_some] <;> rfl), by repeat (first | (with_reducible first | exact HB.out | apply below_alloc | apply pw_below_drewN | apply below_drew1) | exact HB.out)⟩
                          · rw [if_neg c18] at H
                            exact absurd H (by simp)
                        · rw [if_neg c15] at H
                          exact absurd H (by simp)
                      · rw [if_neg c14] at H
                        exact absurd H (by simp)
          · rw [if_neg c7] at H
            exact absurd H (by simp)
        · rw [if_neg c6] at H
          exact absurd H (by simp)
def merkhetref06_All.l0 : Nat → ByteArray → Int → Int → List ByteArray → Option (List ByteArray × Int)
  | 0, _, _, _, _ => none
  | k + 1, x0, x1, x2, x8 => if (x8.length : Int) < x2 then ((merkhetref06_Get.f k x0 x1).bind fun bt259 => (if bt259.2.2 = 0 then (if x8.length < 8796093022208 then (merkhetref06_All.l0 k x0 bt259.2.1 x2 (x8 ++ [bt259.1])) else (none)) else (some (x8, x1)))) else (some (x8, x1))
def merkhetref06_All.f (k : Nat) (a0 : ByteArray) (a1 : Int) (a2 : Int) : Option (List ByteArray × Int) := merkhetref06_All.l0 k a0 a1 a2 (([] : List ByteArray))
theorem merkhetref06_All.mono_l : ∀ k, (∀ y0 y1 y2 y3, LeO (merkhetref06_All.l0 k y0 y1 y2 y3) (merkhetref06_All.l0 (k + 1) y0 y1 y2 y3))
  | 0 => fun _ _ _ _ r h => by simp [merkhetref06_All.l0] at h
  | k + 1 => by
    have ih0 := merkhetref06_All.mono_l k
    · intro y0 y1 y2 y3
      unfold merkhetref06_All.l0
      repeat' first
      | (with_reducible exact ih0 _ _ _ _)
      | (with_reducible exact merkhetref06_Get.mono _ _ _)
      | (with_reducible exact LeO.refl _)
      | (with_reducible exact LeO.none _)
      | (with_reducible refine LeO.ite ?_ ?_)
      | (with_reducible refine LeO.bind ?_ (fun _ => ?_))
      | exact ih0 _ _ _ _
      | exact merkhetref06_Get.mono _ _ _
      | exact LeO.none _
      | refine LeO.ite ?_ ?_
      | refine LeO.bind ?_ (fun _ => ?_)
theorem merkhetref06_All.mono : ∀ a0 a1 a2 k, LeO (merkhetref06_All.f k a0 a1 a2) (merkhetref06_All.f (k + 1) a0 a1 a2) := by
  intro a0 a1 a2 k
  have ih0 := merkhetref06_All.mono_l k
  unfold merkhetref06_All.f
  repeat' first
      | (with_reducible exact ih0 _ _ _ _)
      | (with_reducible exact merkhetref06_Get.mono _ _ _)
      | (with_reducible exact LeO.refl _)
      | (with_reducible exact LeO.none _)
      | (with_reducible refine LeO.ite ?_ ?_)
      | (with_reducible refine LeO.bind ?_ (fun _ => ?_))
      | exact ih0 _ _ _ _
      | exact merkhetref06_Get.mono _ _ _
      | exact LeO.none _
      | refine LeO.ite ?_ ?_
      | refine LeO.bind ?_ (fun _ => ?_)
set_option maxHeartbeats 8000000 in
set_option maxRecDepth 100000 in
theorem merkhetref06_All.calls (k : Nat) (a0 : ByteArray) (a1 : Int) (a2 : Int) (r1 : List ByteArray) (r2 : Int) (w : World) (h : merkhetref06_All.f k a0 a1 a2 = some (r1, r2)) :
    Calls Try.prog 25 #[.string a0, .int .i64 a1, .int .i64 a2] w fun e w' => ∃ v0_ : Value, e = .returned (.tuple #[v0_, .int .i64 r2]) ∧ Kd.R Kd.string 9 w' w.heap.size (fun _ => True) v0_ r1 ∧ Below w.heap.size w w' := by
  have HB := Aside0.mk (Below.refl w.heap.size w)
  have H : (merkhetref06_All.l0 k a0 a1 a2 (([] : List ByteArray))) = some (r1, r2) := h
  clear h
  obtain ⟨y256, hy256⟩ : ∃ y_ : List ByteArray, y_ = (([] : List ByteArray)) := ⟨_, rfl⟩
  replace H : (merkhetref06_All.l0 k a0 a1 a2 y256) = some (r1, r2) := by first | (rw [hy256]; with_reducible exact H) | (have H2_ := (Option.bind_some _ _).symm.trans H; rw [hy256]; with_reducible exact H2_) | (have H2_ := (Option.bind_some _ _).symm.trans H; with_reducible exact H2_) | with_reducible exact H | (rw [hy256]; exact H) | exact H
  have Ny256 := Aside0.mk hy256
  clear hy256
  have H' := Aside0.mk H
  clear H
  go_enter Try.func25, Try.ntmps25
  go_wp2_with (first | ((with_reducible refine gate_dst (N := 12) rfl ?_); refine Kd.R_lit Kd.string _ 9 ?hg (N := 12) ?hd (xs := ([] : List ByteArray)) (inner := []) (ok := fun _ => True) (okp := fun _ => True) ?hr ?hp (fun _ hk => hk) trivial (Below.refl _ _) (Nat.le_refl _) (by simp) ?_; (case hd => rfl); (case hg => rfl); (case hr => first | (go_simp; done) | (go_simp; rfl)); (case hp => exact (Reps.none _ _)); intro v257 w4 ho5 hb hg_ hnew_; clear hg_ hnew_; (first | rw [← Ny256.out] at ho5 | (simp only [Int.reduceToNat] at ho5; rw [← Ny256.out] at ho5)); have n0_ := Aside0.mk (Kd.R_lower ho5 (below_size (by repeat (first | (with_reducible first | exact HB.out | apply below_alloc | apply pw_below_drewN | apply below_drew1) | exact HB.out)))); have n1_ := Aside0.mk (below_step (by repeat (first | (with_reducible first | exact HB.out | apply below_alloc | apply pw_below_drewN | apply below_drew1) | exact HB.out)) hb); clear HB; have HO258 := n0_; have HB := n1_; clear n0_ n1_; clear hb ho5))
  go_loopg [1, 8] k (fun kq v1 v8 w' => ∃ (x1_1 : Int) (x8_1 : List ByteArray), v1 = .int .i64 x1_1 ∧ Aside0 (merkhetref06_All.l0 kq a0 x1_1 a2 x8_1 = some (r1, r2)) ∧ Aside0 (kq ≤ k) ∧ Aside0 (Kd.R Kd.string 9 w' w.heap.size (fun _ => True) v8 x8_1) ∧ Aside0 (Below w.heap.size w w'))
  case atStart => exact ⟨(a1), (y256), (by first | rfl | (simp; done) | (simp [*]; done)), H', ⟨Nat.le_refl _⟩, ⟨by (with_reducible repeat (first | apply Kd.R_alloc | apply Kd.R_drewN | apply Kd.R_drew)); exact HO258.out⟩, ⟨by repeat (first | (with_reducible first | exact HB.out | apply below_alloc | apply pw_below_drewN | apply below_drew1) | exact HB.out)⟩⟩
  case round =>
    clear H'
    try clear c2
    try clear p2
    obtain ⟨x1_1, x8_1, rfl, HA, HK1, HO_8, HB⟩ := hrel
    cases gk with
    | zero => exact absurd HA.out (by simp [merkhetref06_All.l0])
    | succ k1 =>
      have H := HA.out
      clear HA
      simp only [merkhetref06_All.l0] at H
      by_cases c6 : (x8_1.length : Int) < a2
      · rw [if_pos c6] at H
        have c6b0 : decide ((x8_1.length : Int) < a2) = true := decide_eq_true c6
        clear c6
        replace H := Option.bind_eq_some_iff.mp H
        obtain ⟨⟨t259, t260, t261⟩, A70, H⟩ := H
        replace H : (if t261 = 0 then (if x8_1.length < 8796093022208 then (merkhetref06_All.l0 k1 a0 t260 a2 (x8_1 ++ [t259])) else (none)) else (some (x8_1, x1_1))) = some (r1, r2) := H
        have A7 := Aside0.mk A70
        clear A70
        by_cases c8 : t261 = 0
        · rw [if_pos c8] at H
          have c8b0 : (t261 == 0) = true := beq_iff_eq.mpr c8
          have c8b1 : (t261 != 0) = false := bne_eq_false_iff_eq.mpr c8
          clear c8
          by_cases c9 : x8_1.length < 8796093022208
          · rw [if_pos c9] at H
            have LMc9 := Aside0.mk c9
            clear c9
            obtain ⟨y262, hy262⟩ : ∃ y_ : List ByteArray, y_ = (x8_1 ++ [t259]) := ⟨_, rfl⟩
            replace H : (merkhetref06_All.l0 k1 a0 t260 a2 y262) = some (r1, r2) := by first | (rw [hy262]; with_reducible exact H) | (have H2_ := (Option.bind_some _ _).symm.trans H; rw [hy262]; with_reducible exact H2_) | (have H2_ := (Option.bind_some _ _).symm.trans H; with_reducible exact H2_) | with_reducible exact H | (rw [hy262]; exact H) | exact H
            have Ny262 := Aside0.mk hy262
            clear hy262
            have H' := Aside0.mk H
            clear H
            obtain ⟨Ao10, co10, eo10⟩ := Kd.R_slice HO_8.out
            subst eo10
            go_wp2_with (first | ((with_reducible refine gate_callee (f := 23) rfl ?_); refine goesL_ (some 20) rfl rfl Try.func23 (by kernel_rfl) rfl #[.string a0, .int .i64 x1_1] rfl (by (try simp only [List.map_toArray, List.map_cons, List.map_nil]); first | done | rfl | (simp only [List.length_drop, List.length_take]; rfl)) ?_; (with_reducible refine (merkhetref06_Get.calls k1 a0 x1_1 t259 t260 t261 _ A7.out).mono ?_); rintro e w11 ⟨rfl, hb⟩; refine ⟨_, rfl, ?_⟩; have n0_ := Aside0.mk (Kd.R_below (by (with_reducible repeat (first | apply Kd.R_alloc | apply Kd.R_drewN | apply Kd.R_drew)); exact HO_8.out) hb); have n1_ := Aside0.mk (below_step (by repeat (first | (with_reducible first | exact HB.out | apply below_alloc | apply pw_below_drewN | apply below_drew1) | exact HB.out)) hb); clear HO_8; clear HB; have HO_8 := n0_; have HB := n1_; clear n0_ n1_; (try clear hb); (try clear hb2); (try clear hk); (try clear hi)) | ((with_reducible refine gate_builtin (b := .append) (xs := #[.tmp 28, .tmp 30]) rfl ?_); at_builtin; refine Kd.R_append Kd.string (w0 := w) w.heap.size rfl (.tmp 28) (.tmp 30) 45 9 (.string ⟨#[]⟩) 16 rfl Try.underlying45 info9 rfl (by decide) (by omega) (.slice Ao10 x8_1.length co10) x8_1 t259 [.string t259] (fun _ => True) (fun _ => False) rfl rfl ?aP (fun _ hk => hk.elim) ?aF ?aO ?aB ?aS ?aL ?_; (case aP => exact rfl); (case aB => exact (by repeat (first | (with_reducible first | exact HB.out | apply below_alloc | apply pw_below_drewN | apply below_drew1) | exact HB.out))); (case aF => exact (fun _ _ => trivial)); (case aO => exact (by (with_reducible repeat (first | apply Kd.R_alloc | apply Kd.R_drewN | apply Kd.R_drew)); exact HO_8.out)); (case aS => exact (below_size (by repeat (first | (with_reducible first | exact HB.out | apply below_alloc | apply pw_below_drewN | apply below_drew1) | exact HB.out)))); (case aL => have := LMc9.out; omega); intro v263 w12 ho hb hg hat; rw [← Ny262.out] at ho; have n0_ := Aside0.mk (hb); have n1_ := Aside0.mk (ho); clear HB; clear HO_8; have HB := n0_; have HO264 := n1_; clear n0_ n1_; clear ho hb hg hat))
            go_roundg k1
            case measure => have := HK1.out; omega
            case rel => exact ⟨(t260), (y262), (by first | rfl | (simp; done) | (simp [*]; done)), H', ⟨by have := HK1.out; omega⟩, ⟨by (with_reducible repeat (first | apply Kd.R_alloc | apply Kd.R_drewN | apply Kd.R_drew)); exact HO264.out⟩, ⟨by repeat (first | (with_reducible first | exact HB.out | apply below_alloc | apply pw_below_drewN | apply below_drew1) | exact HB.out)⟩⟩
          · rw [if_neg c9] at H
            exact absurd H (by simp)
        · rw [if_neg c8] at H
          have c8b0 : (t261 == 0) = false := beq_eq_false_iff_ne.mpr c8
          have c8b1 : (t261 != 0) = true := bne_iff_ne.mpr c8
          simp only [Option.some.injEq, Prod.mk.injEq] at H
          obtain ⟨rfl, rfl⟩ := H
          obtain ⟨Ao13, co13, eo13⟩ := Kd.R_slice HO_8.out
          subst eo13
          go_wp2_with (first | ((with_reducible refine gate_callee (f := 23) rfl ?_); refine goesL_ (some 20) rfl rfl Try.func23 (by kernel_rfl) rfl #[.string a0, .int .i64 x1_1] rfl (by (try simp only [List.map_toArray, List.map_cons, List.map_nil]); first | done | rfl | (simp only [List.length_drop, List.length_take]; rfl)) ?_; (with_reducible refine (merkhetref06_Get.calls k1 a0 x1_1 t259 t260 t261 _ A7.out).mono ?_); rintro e w14 ⟨rfl, hb⟩; refine ⟨_, rfl, ?_⟩; have n0_ := Aside0.mk (Kd.R_below (by (with_reducible repeat (first | apply Kd.R_alloc | apply Kd.R_drewN | apply Kd.R_drew)); exact HO_8.out) hb); have n1_ := Aside0.mk (below_step (by repeat (first | (with_reducible first | exact HB.out | apply below_alloc | apply pw_below_drewN | apply below_drew1) | exact HB.out)) hb); clear HO_8; clear HB; have HO_8 := n0_; have HB := n1_; clear n0_ n1_; (try clear hb); (try clear hb2); (try clear hk); (try clear hi)))
          go_ret2
          exact ⟨_, by first | rfl | (simp [errW_none, errW_some] <;> rfl) | (simp [*, errW_none, errW_some] <;> rfl), by (with_reducible repeat (first | apply Kd.R_alloc | apply Kd.R_drewN | apply Kd.R_drew)); exact HO_8.out, by repeat (first | (with_reducible first | exact HB.out | apply below_alloc | apply pw_below_drewN | apply below_drew1) | exact HB.out)⟩
      · rw [if_neg c6] at H
        have c6b0 : decide ((x8_1.length : Int) < a2) = false := decide_eq_false c6
        clear c6
        simp only [Option.some.injEq, Prod.mk.injEq] at H
        obtain ⟨rfl, rfl⟩ := H
        obtain ⟨Ao15, co15, eo15⟩ := Kd.R_slice HO_8.out
        subst eo15
        go_wp2
        go_ret2
        exact ⟨_, by first | rfl | (simp [errW_none, errW_some] <;> rfl) | (simp [*, errW_none, errW_some] <;> rfl), by (with_reducible repeat (first | apply Kd.R_alloc | apply Kd.R_drewN | apply Kd.R_drew)); exact HO_8.out, by repeat (first | (with_reducible first | exact HB.out | apply below_alloc | apply pw_below_drewN | apply below_drew1) | exact HB.out)⟩
def merkhetref02_PutText.l0 : Nat → ByteArray → Option (ByteArray)
  | 0, _ => none
  | k + 1, x3 => if (x3.size : Int) < 17 then (if x3.size + 1 ≤ 9223372036854775807 then (merkhetref02_PutText.l0 k (x3 ++ (⟨#[0]⟩ : ByteArray))) else (none)) else (some x3)
def merkhetref02_PutText.f (k : Nat) (a0 : ByteArray) : Option (ByteArray) := if (a0.size : Int) > 16 then (some (⟨#[]⟩ : ByteArray)) else ((merkhetref02_Put.f k (IntKind.u64.wrap ((a0.size : Int))) 1).bind fun t265 => (if t265.size + a0.size ≤ 9223372036854775807 then (merkhetref02_PutText.l0 k (t265 ++ a0)) else (none)))
theorem merkhetref02_PutText.mono_l : ∀ k, (∀ y0, LeO (merkhetref02_PutText.l0 k y0) (merkhetref02_PutText.l0 (k + 1) y0))
  | 0 => fun _ r h => by simp [merkhetref02_PutText.l0] at h
  | k + 1 => by
    have ih0 := merkhetref02_PutText.mono_l k
    · intro y0
      unfold merkhetref02_PutText.l0
      repeat' first
      | (with_reducible exact ih0 _)
      | (with_reducible exact merkhetref02_Put.mono _ _ _)
      | (with_reducible exact LeO.refl _)
      | (with_reducible exact LeO.none _)
      | (with_reducible refine LeO.ite ?_ ?_)
      | (with_reducible refine LeO.bind ?_ (fun _ => ?_))
      | exact ih0 _
      | exact merkhetref02_Put.mono _ _ _
      | exact LeO.none _
      | refine LeO.ite ?_ ?_
      | refine LeO.bind ?_ (fun _ => ?_)
theorem merkhetref02_PutText.mono : ∀ a0 k, LeO (merkhetref02_PutText.f k a0) (merkhetref02_PutText.f (k + 1) a0) := by
  intro a0 k
  have ih0 := merkhetref02_PutText.mono_l k
  unfold merkhetref02_PutText.f
  repeat' first
      | (with_reducible exact ih0 _)
      | (with_reducible exact merkhetref02_Put.mono _ _ _)
      | (with_reducible exact LeO.refl _)
      | (with_reducible exact LeO.none _)
      | (with_reducible refine LeO.ite ?_ ?_)
      | (with_reducible refine LeO.bind ?_ (fun _ => ?_))
      | exact ih0 _
      | exact merkhetref02_Put.mono _ _ _
      | exact LeO.none _
      | refine LeO.ite ?_ ?_
      | refine LeO.bind ?_ (fun _ => ?_)
set_option maxHeartbeats 8000000 in
set_option maxRecDepth 100000 in
theorem merkhetref02_PutText.calls (k : Nat) (a0 : ByteArray) (r : ByteArray) (w : World) (h : merkhetref02_PutText.f k a0 = some r) :
    Calls Try.prog 63 #[.string a0] w fun e w' => e = .returned (.string r) ∧ Below w.heap.size w w' := by
  have HB := Aside0.mk (Below.refl w.heap.size w)
  have H : (if (a0.size : Int) > 16 then (some (⟨#[]⟩ : ByteArray)) else ((merkhetref02_Put.f k (IntKind.u64.wrap ((a0.size : Int))) 1).bind fun t265 => (if t265.size + a0.size ≤ 9223372036854775807 then (merkhetref02_PutText.l0 k (t265 ++ a0)) else (none)))) = some r := h
  clear h
  by_cases c2 : (a0.size : Int) > 16
  · rw [if_pos c2] at H
    have c2b0 : decide (16 < (a0.size : Int)) = true := decide_eq_true c2
    have c2b1 : decide (16 < a0.size) = true := decide_eq_true (by omega)
    clear c2
    obtain rfl := Option.some.inj H
    go_enter Try.func63, Try.ntmps63
    go_wp2
    go_ret
    exact ⟨by first | rfl | (simp [errW_none, errW_some] <;> rfl) | (simp [*, errW_none, errW_some] <;> rfl), by repeat (first | (with_reducible first | exact HB.out | apply below_alloc | apply pw_below_drewN | apply below_drew1) | exact HB.out)⟩
  · rw [if_neg c2] at H
    have c2b0 : decide (16 < (a0.size : Int)) = false := decide_eq_false c2
    have c2b1 : decide (16 < a0.size) = false := decide_eq_false (by omega)
    clear c2
    replace H := Option.bind_eq_some_iff.mp H
    obtain ⟨t265, A30, H⟩ := H
    replace H : (if t265.size + a0.size ≤ 9223372036854775807 then (merkhetref02_PutText.l0 k (t265 ++ a0)) else (none)) = some r := H
    have A3 := Aside0.mk A30
    clear A30
    by_cases c4 : t265.size + a0.size ≤ 9223372036854775807
    · rw [if_pos c4] at H
      have c4b0 := eq_true c4
      have c4b1 : decide (t265.size + a0.size ≤ 9223372036854775807) = true := decide_eq_true c4
      try have c4b2 : (9223372036854775807 < t265.size + a0.size) = False := eq_false (Nat.not_lt.2 c4)
      have H' := Aside0.mk H
      clear H
      go_enter Try.func63, Try.ntmps63
      go_wp2_with (first | ((with_reducible refine gate_callee (f := 41) rfl ?_); refine goesL_ (some 10) rfl rfl Try.func41 (by kernel_rfl) rfl #[.int .u64 (IntKind.u64.wrap ((a0.size : Int))), .int .i64 1] rfl (by (try simp only [List.map_toArray, List.map_cons, List.map_nil]); first | done | rfl | (simp only [List.length_drop, List.length_take]; rfl) | (rw [Go.Proofs.Ytdpodjgggicaoaa.H.u64_id _ (by simp only [decide_eq_false_iff_not, decide_eq_true_eq, Nat.not_lt, Int.not_lt] at *; omega) (by simp only [decide_eq_false_iff_not, decide_eq_true_eq, Nat.not_lt, Int.not_lt] at *; omega)]; rfl)) ?_; (with_reducible refine (merkhetref02_Put.calls k (IntKind.u64.wrap ((a0.size : Int))) 1 t265 _ A3.out).mono ?_); rintro e w5 ⟨rfl, hb⟩; refine ⟨_, rfl, ?_⟩; have n0_ := Aside0.mk (below_step (by repeat (first | (with_reducible first | exact HB.out | apply below_alloc | apply pw_below_drewN | apply below_drew1) | exact HB.out)) hb); clear HB; have HB := n0_; clear n0_; (try clear hb); (try clear hb2); (try clear hk); (try clear hi)))
      go_loopg [3] k (fun kq v3 w' => ∃ (x3_1 : ByteArray), v3 = .string x3_1 ∧ Aside0 (merkhetref02_PutText.l0 kq x3_1 = some r) ∧ Aside0 (kq ≤ k) ∧ Aside0 (Below w.heap.size w w'))
      case atStart => exact ⟨(t265 ++ a0), (by first | rfl | (simp; done) | (simp [*]; done)), H', ⟨Nat.le_refl _⟩, ⟨by repeat (first | (with_reducible first | exact HB.out | apply below_alloc | apply pw_below_drewN | apply below_drew1) | exact HB.out)⟩⟩
      case round =>
        clear H'
        try clear c2
        try clear c2b0
        try clear c2b1
        try clear p2
        try clear c4
        try clear c4b0
        try clear c4b1
        try clear c4b2
        obtain ⟨x3_1, rfl, HA, HK1, HB⟩ := hrel
        cases gk with
        | zero => exact absurd HA.out (by simp [merkhetref02_PutText.l0])
        | succ k1 =>
          have H := HA.out
          clear HA
          simp only [merkhetref02_PutText.l0] at H
          by_cases c6 : (x3_1.size : Int) < 17
          · rw [if_pos c6] at H
            have c6b0 : decide ((x3_1.size : Int) < 17) = true := decide_eq_true c6
            have c6b1 : decide (x3_1.size < 17) = true := decide_eq_true (by omega)
            clear c6
            by_cases c7 : x3_1.size + 1 ≤ 9223372036854775807
            · rw [if_pos c7] at H
              have c7b0 := eq_true c7
              have c7b1 : decide (x3_1.size + 1 ≤ 9223372036854775807) = true := decide_eq_true c7
              try have c7b2 : (9223372036854775807 < x3_1.size + 1) = False := eq_false (Nat.not_lt.2 c7)
              have H' := Aside0.mk H
              clear H
              go_wp2
              go_roundg k1
              case measure => have := HK1.out; omega
              case rel => exact ⟨(x3_1 ++ (⟨#[0]⟩ : ByteArray)), (by first | rfl | (simp; done) | (simp [*]; done)), H', ⟨by have := HK1.out; omega⟩, ⟨by repeat (first | (with_reducible first | exact HB.out | apply below_alloc | apply pw_below_drewN | apply below_drew1) | exact HB.out)⟩⟩
            · rw [if_neg c7] at H
              exact absurd H (by simp)
          · rw [if_neg c6] at H
            have c6b0 : decide ((x3_1.size : Int) < 17) = false := decide_eq_false c6
            have c6b1 : decide (x3_1.size < 17) = false := decide_eq_false (by omega)
            clear c6
            obtain rfl := Option.some.inj H
            go_wp2
            go_ret
            exact ⟨by first | rfl | (simp [errW_none, errW_some] <;> rfl) | (simp [*, errW_none, errW_some] <;> rfl), by repeat (first | (with_reducible first | exact HB.out | apply below_alloc | apply pw_below_drewN | apply below_drew1) | exact HB.out)⟩
    · rw [if_neg c4] at H
      exact absurd H (by simp)
end Go.Proofs.Ytdpodjgggicaoaa.SS
