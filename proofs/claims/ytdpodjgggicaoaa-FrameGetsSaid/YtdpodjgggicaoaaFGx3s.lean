-- WRITTEN FOR THIS CLAIM by wip/tools/mp.py, a program of this project that drives the kit's print; the functions that the print does not take are this project's own texts.
import Derived.Test.YtdpodjgggicaoaaFGx0s
import Derived.Test.YtdpodjgggicaoaaFGx2s
namespace Go.Proofs.Ytdpodjgggicaoaa.FG
open Go.RowKit Go.Proofs.YtdpodjgggicaoaaW.PrintWords Go.Proofs.YtdpodjgggicaoaaW.PrintLast Go.Proofs.YtdpodjgggicaoaaW.PrintMore
attribute [local go_sem] max2_int min2_int max_two min_two max_three min_three max_four min_four   -- for this text's walks alone
set_option linter.unusedVariables false
set_option linter.unusedSimpArgs false
mutual
def merkhetref02_Get.j0 : Nat → ByteArray → Int → Int → Bool → Option (Int × Bool)
  | 0, _, _, _, _ => none
  | k + 1, x0, x1, x8, x29 => if x29 = true then (some (0, false)) else (merkhetref02_Get.l0 k x0 x1 x8 0 1 0)
def merkhetref02_Get.l0 : Nat → ByteArray → Int → Int → Int → Int → Int → Option (Int × Bool)
  | 0, _, _, _, _, _, _ => none
  | k + 1, x0, x1, x8, x9, x10, x11 => if x11 < x8 then (if 0 ≤ (wrap64 (x1 + x11)) then (if (wrap64 (x1 + x11)) < (x0.size : Int) then (merkhetref02_Get.l0 k x0 x1 x8 (IntKind.u64.wrap (x9 + (IntKind.u64.wrap (x10 * (IntKind.u64.wrap (bt x0 (wrap64 (x1 + x11)))))))) (IntKind.u64.wrap (x10 * 256)) (wrap64 (x11 + 1))) else (none)) else (none)) else (some (x9, true))
end
def merkhetref02_Get.f (k : Nat) (a0 : ByteArray) (a1 : Int) (a2 : Int) : Option (Int × Bool) := (merkhetref02_Count.f a2).bind fun t147 => (if a1 < 0 then (merkhetref02_Get.j0 k a0 a1 t147 true) else (if a1 > (a0.size : Int) then (merkhetref02_Get.j0 k a0 a1 t147 true) else (merkhetref02_Get.j0 k a0 a1 t147 (decide ((wrap64 ((a0.size : Int) - a1)) < t147)))))
theorem merkhetref02_Get.mono_l : ∀ k, (∀ y0 y1 y2 y3, LeO (merkhetref02_Get.j0 k y0 y1 y2 y3) (merkhetref02_Get.j0 (k + 1) y0 y1 y2 y3)) ∧ (∀ y0 y1 y2 y3 y4 y5, LeO (merkhetref02_Get.l0 k y0 y1 y2 y3 y4 y5) (merkhetref02_Get.l0 (k + 1) y0 y1 y2 y3 y4 y5))
  | 0 => ⟨fun _ _ _ _ r h => by simp [merkhetref02_Get.j0] at h, fun _ _ _ _ _ _ r h => by simp [merkhetref02_Get.l0] at h⟩
  | k + 1 => by
    obtain ⟨ih0, ih1⟩ := merkhetref02_Get.mono_l k
    refine ⟨?_, ?_⟩
    · intro y0 y1 y2 y3
      unfold merkhetref02_Get.j0
      repeat' first
      | (with_reducible exact ih0 _ _ _ _)
      | (with_reducible exact ih1 _ _ _ _ _ _)
      | (with_reducible exact LeO.refl _)
      | (with_reducible exact LeO.none _)
      | (with_reducible refine LeO.ite ?_ ?_)
      | (with_reducible refine LeO.bind ?_ (fun _ => ?_))
      | exact ih0 _ _ _ _
      | exact ih1 _ _ _ _ _ _
      | exact LeO.none _
      | refine LeO.ite ?_ ?_
      | refine LeO.bind ?_ (fun _ => ?_)
    · intro y0 y1 y2 y3 y4 y5
      unfold merkhetref02_Get.l0
      repeat' first
      | (with_reducible exact ih0 _ _ _ _)
      | (with_reducible exact ih1 _ _ _ _ _ _)
      | (with_reducible exact LeO.refl _)
      | (with_reducible exact LeO.none _)
      | (with_reducible refine LeO.ite ?_ ?_)
      | (with_reducible refine LeO.bind ?_ (fun _ => ?_))
      | exact ih0 _ _ _ _
      | exact ih1 _ _ _ _ _ _
      | exact LeO.none _
      | refine LeO.ite ?_ ?_
      | refine LeO.bind ?_ (fun _ => ?_)
theorem merkhetref02_Get.mono : ∀ a0 a1 a2 k, LeO (merkhetref02_Get.f k a0 a1 a2) (merkhetref02_Get.f (k + 1) a0 a1 a2) := by
  intro a0 a1 a2 k
  obtain ⟨ih0, ih1⟩ := merkhetref02_Get.mono_l k
  unfold merkhetref02_Get.f
  repeat' first
      | (with_reducible exact ih0 _ _ _ _)
      | (with_reducible exact ih1 _ _ _ _ _ _)
      | (with_reducible exact LeO.refl _)
      | (with_reducible exact LeO.none _)
      | (with_reducible refine LeO.ite ?_ ?_)
      | (with_reducible refine LeO.bind ?_ (fun _ => ?_))
      | exact ih0 _ _ _ _
      | exact ih1 _ _ _ _ _ _
      | exact LeO.none _
      | refine LeO.ite ?_ ?_
      | refine LeO.bind ?_ (fun _ => ?_)
set_option maxHeartbeats 8000000 in
set_option maxRecDepth 100000 in
theorem merkhetref02_Get.calls (k : Nat) (a0 : ByteArray) (a1 : Int) (a2 : Int) (r1 : Int) (r2 : Bool) (w : World) (h : merkhetref02_Get.f k a0 a1 a2 = some (r1, r2)) :
    Calls Try.prog 45 #[.string a0, .int .i64 a1, .int .i64 a2] w fun e w' => e = .returned (.tuple #[.int .u64 r1, .bool r2]) ∧ Drawn0 w w' := by
  have H : ((merkhetref02_Count.f a2).bind fun t147 => (if a1 < 0 then (merkhetref02_Get.j0 k a0 a1 t147 true) else (if a1 > (a0.size : Int) then (merkhetref02_Get.j0 k a0 a1 t147 true) else (merkhetref02_Get.j0 k a0 a1 t147 (decide ((wrap64 ((a0.size : Int) - a1)) < t147)))))) = some (r1, r2) := h
  clear h
  replace H := Option.bind_eq_some_iff.mp H
  obtain ⟨t147, A40, H⟩ := H
  replace H : (if a1 < 0 then (merkhetref02_Get.j0 k a0 a1 t147 true) else (if a1 > (a0.size : Int) then (merkhetref02_Get.j0 k a0 a1 t147 true) else (merkhetref02_Get.j0 k a0 a1 t147 (decide ((wrap64 ((a0.size : Int) - a1)) < t147))))) = some (r1, r2) := H
  have A4 := Aside0.mk A40
  clear A40
  have HC5 := Aside0.mk H
  clear H
  go_enter Try.func45, Try.ntmps45
  go_upto_region 2 with (first | ((with_reducible refine gate_callee (f := 59) rfl ?_); refine goesL_ (some 13) rfl rfl Try.func59 (by kernel_rfl) rfl #[.int .i64 a2] rfl (by (try simp only [List.map_toArray, List.map_cons, List.map_nil]); first | done | rfl | (simp only [List.length_drop, List.length_take]; rfl) | (rw [Go.Proofs.Ytdpodjgggicaoaa.H.u64_id _ (by simp only [decide_eq_false_iff_not, decide_eq_true_eq, Nat.not_lt, Int.not_lt] at *; omega) (by simp only [decide_eq_false_iff_not, decide_eq_true_eq, Nat.not_lt, Int.not_lt] at *; omega)]; rfl)) ?_; (with_reducible refine (merkhetref02_Count.calls a2 t147 _ A4.out).mono ?_); rintro e w' ⟨rfl, ⟨nd, rfl⟩⟩; refine ⟨_, rfl, ?_⟩))
  (try simp only [Act.put, List.setIfInBounds_toArray, List.set_cons_zero, List.set_cons_succ])
  go_cut [29] (fun v29 wc => ∃ (kq : Nat) (x29_4 : Bool), v29 = .bool x29_4 ∧ Aside0 (merkhetref02_Get.j0 kq a0 a1 t147 x29_4 = some (r1, r2)) ∧ Aside0 (kq ≤ k) ∧ Drawn0 w wc)
  case first =>
    have H := HC5.out
    clear HC5
    by_cases c6 : a1 < 0
    · rw [if_pos c6] at H
      have c6b0 : decide (a1 < 0) = true := decide_eq_true c6
      clear c6
      (first | rw [c6b0] | (simp only [i64_w, i32_w]; rw [c6b0]) | skip)
      have H' := Aside0.mk H
      clear H
      go_wp2
      go_meet
      case rel => exact ⟨_, (true), (by first | rfl | (simp; done) | (simp [*]; done)), H', ⟨by first | omega | exact Nat.le_refl _⟩, by repeat (first | exact Drawn0.refl _ | apply Drawn0.step)⟩
    · rw [if_neg c6] at H
      have c6b0 : decide (a1 < 0) = false := decide_eq_false c6
      clear c6
      (first | rw [c6b0] | (simp only [i64_w, i32_w]; rw [c6b0]) | skip)
      by_cases c7 : a1 > (a0.size : Int)
      · rw [if_pos c7] at H
        have c7b0 : decide ((a0.size : Int) < a1) = true := decide_eq_true c7
        clear c7
        have H' := Aside0.mk H
        clear H
        go_wp2
        go_meet
        case rel => exact ⟨_, (true), (by first | rfl | (simp; done) | (simp [*]; done)), H', ⟨by first | omega | exact Nat.le_refl _⟩, by repeat (first | exact Drawn0.refl _ | apply Drawn0.step)⟩
      · rw [if_neg c7] at H
        have c7b0 : decide ((a0.size : Int) < a1) = false := decide_eq_false c7
        clear c7
        have H' := Aside0.mk H
        clear H
        go_wp2
        go_meet
        case rel => exact ⟨_, (decide ((wrap64 ((a0.size : Int) - a1)) < t147)), (by first | rfl | (simp; done) | (simp [*]; done)), H', ⟨by first | omega | exact Nat.le_refl _⟩, by repeat (first | exact Drawn0.refl _ | apply Drawn0.step)⟩
  case rest =>
    clear HC5
    try clear p2
    try clear c4
    try clear c5
    try clear c6
    try clear c6b0
    try clear p6
    try clear c7
    try clear c7b0
    obtain ⟨kq, x29_4, rfl, HA, HJ4, ⟨mc4, rfl⟩⟩ := hcut
    cases kq with
    | zero => exact absurd HA.out (by simp [merkhetref02_Get.j0])
    | succ kj4 =>
      have H := HA.out
      clear HA
      simp only [merkhetref02_Get.j0] at H
      by_cases c8 : x29_4 = true
      · subst c8
        have H1 : (some (0, false)) = some (r1, r2) := by rw [if_pos rfl] at H; exact H
        clear H
        have H := H1
        clear H1
        simp only [Option.some.injEq, Prod.mk.injEq] at H
        obtain ⟨rfl, rfl⟩ := H
        go_wp2
        go_ret2
        exact ⟨by first | rfl | (simp; done) | (simp [*]; done), by repeat (first | exact Drawn0.refl _ | apply Drawn0.step)⟩
      · replace c8 := Bool.eq_false_iff.mpr c8
        subst c8
        have H1 : (merkhetref02_Get.l0 kj4 a0 a1 t147 0 1 0) = some (r1, r2) := by rw [if_neg (show ¬ (false = true) by decide)] at H; exact H
        clear H
        have H := H1
        clear H1
        have H' := Aside0.mk H
        clear H
        go_wp2
        go_loopg [9, 10, 11] kj4 (fun kq v9 v10 v11 w' => ∃ (x9_2 : Int) (x10_2 : Int) (x11_2 : Int), v9 = .int .u64 x9_2 ∧ v10 = .int .u64 x10_2 ∧ v11 = .int .i64 x11_2 ∧ Aside0 (merkhetref02_Get.l0 kq a0 a1 t147 x9_2 x10_2 x11_2 = some (r1, r2)) ∧ Aside0 (kq ≤ kj4) ∧ Drawn0 w w')
        case atStart => exact ⟨(0), (1), (0), (by first | rfl | (simp; done) | (simp [*]; done)), (by first | rfl | (simp; done) | (simp [*]; done)), (by first | rfl | (simp; done) | (simp [*]; done)), H', ⟨Nat.le_refl _⟩, by repeat (first | exact Drawn0.refl _ | apply Drawn0.step)⟩
        case round =>
          clear H'
          try clear p2
          try clear c4
          try clear c5
          try clear c6
          try clear c6b0
          try clear p6
          try clear c7
          try clear c7b0
          try clear c8
          try clear p2
          try clear p6
          obtain ⟨x9_2, x10_2, x11_2, rfl, rfl, rfl, HA, HK2, ⟨m2, rfl⟩⟩ := hrel
          cases gk with
          | zero => exact absurd HA.out (by simp [merkhetref02_Get.l0])
          | succ k2 =>
            have H := HA.out
            clear HA
            simp only [merkhetref02_Get.l0] at H
            by_cases c9 : x11_2 < t147
            · rw [if_pos c9] at H
              have c9b0 : decide (x11_2 < t147) = true := decide_eq_true c9
              clear c9
              obtain ⟨ji10, hji10⟩ : ∃ j_ : Int, (wrap64 (a1 + x11_2)) = j_ := ⟨_, rfl⟩
              replace H : (if 0 ≤ (ji10) then (if (ji10) < (a0.size : Int) then (merkhetref02_Get.l0 k2 a0 a1 t147 (IntKind.u64.wrap (x9_2 + (IntKind.u64.wrap (x10_2 * (IntKind.u64.wrap (bt a0 (ji10))))))) (IntKind.u64.wrap (x10_2 * 256)) (wrap64 (x11_2 + 1))) else (none)) else (none)) = some (r1, r2) := by first | (rw [hji10] at H; exact H) | (simp only [hji10] at H ⊢; exact H)
              have hji10w : (IntKind.i64.wrap (a1 + x11_2)) = ji10 := (i64_w _).trans hji10
              by_cases c11 : 0 ≤ (ji10)
              · rw [if_pos c11] at H
                have c11b0 : decide (0 ≤ (ji10)) = true := decide_eq_true c11
                clear c11
                by_cases c12 : (ji10) < (a0.size : Int)
                · rw [if_pos c12] at H
                  have c12b0 : decide ((ji10) < (a0.size : Int)) = true := decide_eq_true c12
                  clear c12
                  have H' := Aside0.mk H
                  clear H
                  have p13 : 0 ≤ ((ji10) : Int) := of_decide_eq_true (by first | (with_reducible assumption) | assumption)
                  have q13 : (ji10) < (a0.size : Int) := of_decide_eq_true (by first | (with_reducible assumption) | assumption)
                  have hx13 := bt_at a0 (ji10)
                  replace p13 := eq_true p13
                  replace q13 := eq_true q13
                  go_wp2
                  go_roundg k2
                  case measure => have := HJ4.out; have := HK2.out; omega
                  case rel => exact ⟨(IntKind.u64.wrap (x9_2 + (IntKind.u64.wrap (x10_2 * (IntKind.u64.wrap (bt a0 (ji10))))))), (IntKind.u64.wrap (x10_2 * 256)), (wrap64 (x11_2 + 1)), (by first | rfl | (simp; done) | (simp only [← hji10] <;> (first | rfl | simp)) | (simp [*]; done)), (by first | rfl | (simp; done) | (simp [*]; done)), (by first | rfl | (simp; done) | (simp [*]; done)), H', ⟨by have := HJ4.out; have := HK2.out; omega⟩, by repeat (first | exact Drawn0.refl _ | apply Drawn0.step)⟩
                · rw [if_neg c12] at H
                  exact absurd H (by simp)
              · rw [if_neg c11] at H
                exact absurd H (by simp)
            · rw [if_neg c9] at H
              have c9b0 : decide (x11_2 < t147) = false := decide_eq_false c9
              clear c9
              simp only [Option.some.injEq, Prod.mk.injEq] at H
              obtain ⟨rfl, rfl⟩ := H
              go_wp2
              go_ret2
              exact ⟨by first | rfl | (simp; done) | (simp [*]; done), by repeat (first | exact Drawn0.refl _ | apply Drawn0.step)⟩
mutual
def merkhetref06_Get.j0 : Nat → ByteArray → Int → Bool → Option (ByteArray × Int × Int)
  | 0, _, _, _ => none
  | k + 1, x0, x1, x19 => if x19 = true then (some ((⟨#[]⟩ : ByteArray), 0, 5)) else (if 0 ≤ x1 then (if x1 ≤ (x0.size : Int) then (if ((x0.extract (x1 : Int).toNat x0.size).size : Int) < 6 then (some ((⟨#[]⟩ : ByteArray), 0, 2)) else ((merkhetref02_Get.f k (x0.extract (x1 : Int).toNat x0.size) 0 2).bind fun bt148 => (if bt148.1 = 0 then (merkhetref06_Get.j1 k (x0.extract (x1 : Int).toNat x0.size) x1 bt148.1 true) else (merkhetref06_Get.j1 k (x0.extract (x1 : Int).toNat x0.size) x1 bt148.1 (decide (bt148.1 > 2406)))))) else (none)) else (none))
def merkhetref06_Get.j1 : Nat → ByteArray → Int → Int → Bool → Option (ByteArray × Int × Int)
  | 0, _, _, _, _ => none
  | k + 1, x0, x1, x7, x36 => if x36 = true then (some ((⟨#[]⟩ : ByteArray), 0, 3)) else (if (x0.size : Int) < (wrap64 (6 + (wrap64 (x7)))) then (some ((⟨#[]⟩ : ByteArray), 0, 2)) else (if 6 ≤ (wrap64 (6 + (wrap64 (x7)))) then (if (wrap64 (6 + (wrap64 (x7)))) ≤ (x0.size : Int) then ((merkhetref06_Put.f k (x0.extract 6 ((wrap64 (6 + (wrap64 (x7)))) : Int).toNat)).bind fun bt150 => (if 0 ≤ (wrap64 (6 + (wrap64 (x7)))) then (if bt150.1.toList = (x0.extract 0 ((wrap64 (6 + (wrap64 (x7)))) : Int).toNat).toList then (some (x0.extract 6 ((wrap64 (6 + (wrap64 (x7)))) : Int).toNat, wrap64 ((wrap64 (x1 + 6)) + (wrap64 (x7))), 0)) else (some ((⟨#[]⟩ : ByteArray), 0, 8))) else (none))) else (none)) else (none)))
end
def merkhetref06_Get.f (k : Nat) (a0 : ByteArray) (a1 : Int) : Option (ByteArray × Int × Int) := if a1 < 0 then (merkhetref06_Get.j0 k a0 a1 true) else (merkhetref06_Get.j0 k a0 a1 (decide (a1 ≥ (a0.size : Int))))
theorem merkhetref06_Get.mono_l : ∀ k, (∀ y0 y1 y2, LeO (merkhetref06_Get.j0 k y0 y1 y2) (merkhetref06_Get.j0 (k + 1) y0 y1 y2)) ∧ (∀ y0 y1 y2 y3, LeO (merkhetref06_Get.j1 k y0 y1 y2 y3) (merkhetref06_Get.j1 (k + 1) y0 y1 y2 y3))
  | 0 => ⟨fun _ _ _ r h => by simp [merkhetref06_Get.j0] at h, fun _ _ _ _ r h => by simp [merkhetref06_Get.j1] at h⟩
  | k + 1 => by
    obtain ⟨ih0, ih1⟩ := merkhetref06_Get.mono_l k
    refine ⟨?_, ?_⟩
    · intro y0 y1 y2
      unfold merkhetref06_Get.j0
      repeat' first
      | (with_reducible exact ih0 _ _ _)
      | (with_reducible exact ih1 _ _ _ _)
      | (with_reducible exact merkhetref02_Get.mono _ _ _ _)
      | (with_reducible exact merkhetref06_Put.mono _ _)
      | (with_reducible exact LeO.refl _)
      | (with_reducible exact LeO.none _)
      | (with_reducible refine LeO.ite ?_ ?_)
      | (with_reducible refine LeO.bind ?_ (fun _ => ?_))
      | exact ih0 _ _ _
      | exact ih1 _ _ _ _
      | exact merkhetref02_Get.mono _ _ _ _
      | exact merkhetref06_Put.mono _ _
      | exact LeO.none _
      | refine LeO.ite ?_ ?_
      | refine LeO.bind ?_ (fun _ => ?_)
    · intro y0 y1 y2 y3
      unfold merkhetref06_Get.j1
      repeat' first
      | (with_reducible exact ih0 _ _ _)
      | (with_reducible exact ih1 _ _ _ _)
      | (with_reducible exact merkhetref02_Get.mono _ _ _ _)
      | (with_reducible exact merkhetref06_Put.mono _ _)
      | (with_reducible exact LeO.refl _)
      | (with_reducible exact LeO.none _)
      | (with_reducible refine LeO.ite ?_ ?_)
      | (with_reducible refine LeO.bind ?_ (fun _ => ?_))
      | exact ih0 _ _ _
      | exact ih1 _ _ _ _
      | exact merkhetref02_Get.mono _ _ _ _
      | exact merkhetref06_Put.mono _ _
      | exact LeO.none _
      | refine LeO.ite ?_ ?_
      | refine LeO.bind ?_ (fun _ => ?_)
theorem merkhetref06_Get.mono : ∀ a0 a1 k, LeO (merkhetref06_Get.f k a0 a1) (merkhetref06_Get.f (k + 1) a0 a1) := by
  intro a0 a1 k
  obtain ⟨ih0, ih1⟩ := merkhetref06_Get.mono_l k
  unfold merkhetref06_Get.f
  repeat' first
      | (with_reducible exact ih0 _ _ _)
      | (with_reducible exact ih1 _ _ _ _)
      | (with_reducible exact merkhetref02_Get.mono _ _ _ _)
      | (with_reducible exact merkhetref06_Put.mono _ _)
      | (with_reducible exact LeO.refl _)
      | (with_reducible exact LeO.none _)
      | (with_reducible refine LeO.ite ?_ ?_)
      | (with_reducible refine LeO.bind ?_ (fun _ => ?_))
      | exact ih0 _ _ _
      | exact ih1 _ _ _ _
      | exact merkhetref02_Get.mono _ _ _ _
      | exact merkhetref06_Put.mono _ _
      | exact LeO.none _
      | refine LeO.ite ?_ ?_
      | refine LeO.bind ?_ (fun _ => ?_)
set_option maxHeartbeats 8000000 in
set_option maxRecDepth 100000 in
theorem merkhetref06_Get.calls (k : Nat) (a0 : ByteArray) (a1 : Int) (r1 : ByteArray) (r2 : Int) (r3 : Int) (w : World) (h : merkhetref06_Get.f k a0 a1 = some (r1, r2, r3)) :
    Calls Try.prog 23 #[.string a0, .int .i64 a1] w fun e w' => e = .returned (.tuple #[.string r1, .int .i64 r2, .int .i64 r3]) ∧ Below w.heap.size w w' := by
  have HB := Aside0.mk (Below.refl w.heap.size w)
  have H : (if a1 < 0 then (merkhetref06_Get.j0 k a0 a1 true) else (merkhetref06_Get.j0 k a0 a1 (decide (a1 ≥ (a0.size : Int))))) = some (r1, r2, r3) := h
  clear h
  have HC3 := Aside0.mk H
  clear H
  go_enter Try.func23, Try.ntmps23
  go_upto_region 1 with (fail)
  go_cut [19] (fun v19 wc => ∃ (kq : Nat) (x19_2 : Bool), v19 = .bool x19_2 ∧ Aside0 (merkhetref06_Get.j0 kq a0 a1 x19_2 = some (r1, r2, r3)) ∧ Aside0 (kq ≤ k) ∧ Aside0 (Below w.heap.size w wc))
  case first =>
    have H := HC3.out
    clear HC3
    by_cases c4 : a1 < 0
    · rw [if_pos c4] at H
      have c4b0 : decide (a1 < 0) = true := decide_eq_true c4
      clear c4
      (first | rw [c4b0] | (simp only [i64_w, i32_w]; rw [c4b0]) | skip)
      have H' := Aside0.mk H
      clear H
      go_wp2
      go_meet
      case rel => exact ⟨_, (true), (by first | rfl | (simp; done) | (simp [*]; done)), H', ⟨by first | omega | exact Nat.le_refl _⟩, ⟨by repeat (first | (with_reducible first | exact HB.out | apply below_alloc | apply pw_below_drewN | apply below_drew1) | exact HB.out)⟩⟩
    · rw [if_neg c4] at H
      have c4b0 : decide (a1 < 0) = false := decide_eq_false c4
      clear c4
      (first | rw [c4b0] | (simp only [i64_w, i32_w]; rw [c4b0]) | skip)
      have H' := Aside0.mk H
      clear H
      go_wp2
      go_meet
      case rel => exact ⟨_, (decide (a1 ≥ (a0.size : Int))), (by first | rfl | (simp; done) | (simp [*]; done)), H', ⟨by first | omega | exact Nat.le_refl _⟩, ⟨by repeat (first | (with_reducible first | exact HB.out | apply below_alloc | apply pw_below_drewN | apply below_drew1) | exact HB.out)⟩⟩
  case rest =>
    clear HC3
    try clear c2
    try clear p2
    try clear c4
    try clear c4b0
    obtain ⟨kq, x19_2, rfl, HA, HJ2, HB⟩ := hcut
    cases kq with
    | zero => exact absurd HA.out (by simp [merkhetref06_Get.j0])
    | succ kj2 =>
      have H := HA.out
      clear HA
      simp only [merkhetref06_Get.j0] at H
      by_cases c5 : x19_2 = true
      · subst c5
        have H1 : (some ((⟨#[]⟩ : ByteArray), 0, 5)) = some (r1, r2, r3) := by rw [if_pos rfl] at H; exact H
        clear H
        have H := H1
        clear H1
        simp only [Option.some.injEq, Prod.mk.injEq] at H
        obtain ⟨rfl, rfl, rfl⟩ := H
        go_wp2
        go_ret3
        exact ⟨by first | rfl | (simp [errW_none, errW_some] <;> rfl) | (simp [*, errW_none, errW_some] <;> rfl), by repeat (first | (with_reducible first | exact HB.out | apply below_alloc | apply pw_below_drewN | apply below_drew1) | exact HB.out)⟩
      · replace c5 := Bool.eq_false_iff.mpr c5
        subst c5
        have H1 : (if 0 ≤ a1 then (if a1 ≤ (a0.size : Int) then (if ((a0.extract (a1 : Int).toNat a0.size).size : Int) < 6 then (some ((⟨#[]⟩ : ByteArray), 0, 2)) else ((merkhetref02_Get.f kj2 (a0.extract (a1 : Int).toNat a0.size) 0 2).bind fun bt148 => (if bt148.1 = 0 then (merkhetref06_Get.j1 kj2 (a0.extract (a1 : Int).toNat a0.size) a1 bt148.1 true) else (merkhetref06_Get.j1 kj2 (a0.extract (a1 : Int).toNat a0.size) a1 bt148.1 (decide (bt148.1 > 2406)))))) else (none)) else (none)) = some (r1, r2, r3) := by rw [if_neg (show ¬ (false = true) by decide)] at H; exact H
        clear H
        have H := H1
        clear H1
        by_cases c6 : 0 ≤ a1
        · rw [if_pos c6] at H
          have c6b0 := eq_true c6
          have c6b1 : decide (0 ≤ a1) = true := decide_eq_true c6
          clear c6
          by_cases c7 : a1 ≤ (a0.size : Int)
          · rw [if_pos c7] at H
            have c7b0 := eq_true c7
            have c7b1 : decide (a1 ≤ (a0.size : Int)) = true := decide_eq_true c7
            clear c7
            obtain ⟨sx0_, hsx_, hsxrsx0_⟩ : ∃ s_ : ByteArray, a0.extract (a1 : Int).toNat a0.size = s_ ∧ (∀ W_ : World, (Instr.slice 9 (.string a0) (some (.int .i64 a1)) none none).run Try.prog W_ = .ok (.string s_) W_) := ⟨_, rfl, fun W_ => by simp [go_sem, Try.underlying9, *]⟩
            rw [hsx_] at H
            have Nsx0_ := Aside0.mk hsx_
            clear hsx_
            by_cases c8 : (sx0_.size : Int) < 6
            · rw [if_pos c8] at H
              have c8b0 : decide ((sx0_.size : Int) < 6) = true := decide_eq_true c8
              have c8b1 : decide (sx0_.size < 6) = true := decide_eq_true (by omega)
              clear c8
              simp only [Option.some.injEq, Prod.mk.injEq] at H
              obtain ⟨rfl, rfl, rfl⟩ := H
              go_wp2
              go_ret3
              exact ⟨by first | rfl | (simp [errW_none, errW_some] <;> rfl) | (simp [*, errW_none, errW_some] <;> rfl), by repeat (first | (with_reducible first | exact HB.out | apply below_alloc | apply pw_below_drewN | apply below_drew1) | exact HB.out)⟩
            · rw [if_neg c8] at H
              have c8b0 : decide ((sx0_.size : Int) < 6) = false := decide_eq_false c8
              have c8b1 : decide (sx0_.size < 6) = false := decide_eq_false (by omega)
              clear c8
              replace H := Option.bind_eq_some_iff.mp H
              obtain ⟨⟨t148, t149⟩, A90, H⟩ := H
              replace H : (if t148 = 0 then (merkhetref06_Get.j1 kj2 sx0_ a1 t148 true) else (merkhetref06_Get.j1 kj2 sx0_ a1 t148 (decide (t148 > 2406)))) = some (r1, r2, r3) := H
              have A9 := Aside0.mk A90
              clear A90
              have HC10 := Aside0.mk H
              clear H
              go_upto_region 7 with (first | ((with_reducible refine gate_callee (f := 45) rfl ?_); refine goesL_ (some 28) rfl rfl Try.func45 (by kernel_rfl) rfl #[.string sx0_, .int .i64 0, .int .i64 2] rfl (by (try simp only [List.map_toArray, List.map_cons, List.map_nil]); first | done | rfl | (simp only [List.length_drop, List.length_take]; rfl)) ?_; (with_reducible refine (merkhetref02_Get.calls kj2 sx0_ 0 2 t148 t149 _ A9.out).mono ?_); rintro e w' ⟨rfl, ⟨nd, rfl⟩⟩; refine ⟨_, rfl, ?_⟩))
              (try simp only [Act.put, List.setIfInBounds_toArray, List.set_cons_zero, List.set_cons_succ])
              go_cut [36] (fun v36 wc => ∃ (kq : Nat) (x36_9 : Bool), v36 = .bool x36_9 ∧ Aside0 (merkhetref06_Get.j1 kq sx0_ a1 t148 x36_9 = some (r1, r2, r3)) ∧ Aside0 (kq ≤ kj2) ∧ Aside0 (Below w.heap.size w wc))
              case first =>
                have H := HC10.out
                clear HC10
                by_cases c11 : t148 = 0
                · rw [if_pos c11] at H
                  have c11b0 : (t148 == 0) = true := beq_iff_eq.mpr c11
                  have c11b1 : (t148 != 0) = false := bne_eq_false_iff_eq.mpr c11
                  clear c11
                  (first | rw [c11b0] | (simp only [i64_w, i32_w]; rw [c11b0]) | skip)
                  have H' := Aside0.mk H
                  clear H
                  go_wp2
                  go_meet
                  case rel => exact ⟨_, (true), (by first | rfl | (simp; done) | (simp [*]; done)), H', ⟨by have := HJ2.out; first | omega | exact Nat.le_refl _⟩, ⟨by repeat (first | (with_reducible first | exact HB.out | apply below_alloc | apply pw_below_drewN | apply below_drew1) | exact HB.out)⟩⟩
                · rw [if_neg c11] at H
                  have c11b0 : (t148 == 0) = false := beq_eq_false_iff_ne.mpr c11
                  have c11b1 : (t148 != 0) = true := bne_iff_ne.mpr c11
                  (first | rw [c11b0] | (simp only [i64_w, i32_w]; rw [c11b0]) | skip)
                  have H' := Aside0.mk H
                  clear H
                  go_wp2
                  go_meet
                  case rel => exact ⟨_, (decide (t148 > 2406)), (by first | rfl | (simp; done) | (simp [*]; done)), H', ⟨by have := HJ2.out; first | omega | exact Nat.le_refl _⟩, ⟨by repeat (first | (with_reducible first | exact HB.out | apply below_alloc | apply pw_below_drewN | apply below_drew1) | exact HB.out)⟩⟩
              case rest =>
                clear HC10
                try clear c1
                try clear c2
                try clear p2
                try clear c4
                try clear c4b0
                try clear c5
                try clear c6
                try clear c6b0
                try clear c6b1
                try clear c7
                try clear c7b0
                try clear c7b1
                try clear c8
                try clear c8b0
                try clear c8b1
                try clear c11
                try clear c11b0
                try clear c11b1
                try clear p2
                obtain ⟨kq, x36_9, rfl, HA, HJ9, HB⟩ := hcut
                cases kq with
                | zero => exact absurd HA.out (by simp [merkhetref06_Get.j1])
                | succ kj9 =>
                  have H := HA.out
                  clear HA
                  simp only [merkhetref06_Get.j1] at H
                  by_cases c12 : x36_9 = true
                  · subst c12
                    have H1 : (some ((⟨#[]⟩ : ByteArray), 0, 3)) = some (r1, r2, r3) := by rw [if_pos rfl] at H; exact H
                    clear H
                    have H := H1
                    clear H1
                    simp only [Option.some.injEq, Prod.mk.injEq] at H
                    obtain ⟨rfl, rfl, rfl⟩ := H
                    go_wp2
                    go_ret3
                    exact ⟨by first | rfl | (simp [errW_none, errW_some] <;> rfl) | (simp [*, errW_none, errW_some] <;> rfl), by repeat (first | (with_reducible first | exact HB.out | apply below_alloc | apply pw_below_drewN | apply below_drew1) | exact HB.out)⟩
                  · replace c12 := Bool.eq_false_iff.mpr c12
                    subst c12
                    have H1 : (if (sx0_.size : Int) < (wrap64 (6 + (wrap64 (t148)))) then (some ((⟨#[]⟩ : ByteArray), 0, 2)) else (if 6 ≤ (wrap64 (6 + (wrap64 (t148)))) then (if (wrap64 (6 + (wrap64 (t148)))) ≤ (sx0_.size : Int) then ((merkhetref06_Put.f kj9 (sx0_.extract 6 ((wrap64 (6 + (wrap64 (t148)))) : Int).toNat)).bind fun bt150 => (if 0 ≤ (wrap64 (6 + (wrap64 (t148)))) then (if bt150.1.toList = (sx0_.extract 0 ((wrap64 (6 + (wrap64 (t148)))) : Int).toNat).toList then (some (sx0_.extract 6 ((wrap64 (6 + (wrap64 (t148)))) : Int).toNat, wrap64 ((wrap64 (a1 + 6)) + (wrap64 (t148))), 0)) else (some ((⟨#[]⟩ : ByteArray), 0, 8))) else (none))) else (none)) else (none))) = some (r1, r2, r3) := by rw [if_neg (show ¬ (false = true) by decide)] at H; exact H
                    clear H
                    have H := H1
                    clear H1
                    by_cases c13 : (sx0_.size : Int) < (wrap64 (6 + (wrap64 (t148))))
                    · rw [if_pos c13] at H
                      have c13b0 : decide ((sx0_.size : Int) < (wrap64 (6 + (wrap64 (t148))))) = true := decide_eq_true c13
                      clear c13
                      simp only [Option.some.injEq, Prod.mk.injEq] at H
                      obtain ⟨rfl, rfl, rfl⟩ := H
                      go_wp2
                      go_ret3
                      exact ⟨by first | rfl | (simp [errW_none, errW_some] <;> rfl) | (simp [*, errW_none, errW_some] <;> rfl), by repeat (first | (with_reducible first | exact HB.out | apply below_alloc | apply pw_below_drewN | apply below_drew1) | exact HB.out)⟩
                    · rw [if_neg c13] at H
                      have c13b0 : decide ((sx0_.size : Int) < (wrap64 (6 + (wrap64 (t148))))) = false := decide_eq_false c13
                      clear c13
                      by_cases c14 : 6 ≤ (wrap64 (6 + (wrap64 (t148))))
                      · rw [if_pos c14] at H
                        have c14b0 := eq_true c14
                        have c14b1 : decide (6 ≤ (wrap64 (6 + (wrap64 (t148))))) = true := decide_eq_true c14
                        by_cases c15 : (wrap64 (6 + (wrap64 (t148)))) ≤ (sx0_.size : Int)
                        · rw [if_pos c15] at H
                          have c15b0 := eq_true c15
                          have c15b1 : decide ((wrap64 (6 + (wrap64 (t148)))) ≤ (sx0_.size : Int)) = true := decide_eq_true c15
                          replace H := Option.bind_eq_some_iff.mp H
                          obtain ⟨⟨t150, t151⟩, A160, H⟩ := H
                          replace H : (if 0 ≤ (wrap64 (6 + (wrap64 (t148)))) then (if t150.toList = (sx0_.extract 0 ((wrap64 (6 + (wrap64 (t148)))) : Int).toNat).toList then (some (sx0_.extract 6 ((wrap64 (6 + (wrap64 (t148)))) : Int).toNat, wrap64 ((wrap64 (a1 + 6)) + (wrap64 (t148))), 0)) else (some ((⟨#[]⟩ : ByteArray), 0, 8))) else (none)) = some (r1, r2, r3) := H
                          have A16 := Aside0.mk A160
                          clear A160
                          obtain ⟨ji17, hji17⟩ : ∃ j_ : Int, (wrap64 (6 + (wrap64 (t148)))) = j_ := ⟨_, rfl⟩
                          replace H : (if 0 ≤ (ji17) then (if t150.toList = (sx0_.extract 0 ((ji17) : Int).toNat).toList then (some (sx0_.extract 6 ((ji17) : Int).toNat, wrap64 ((wrap64 (a1 + 6)) + (wrap64 (t148))), 0)) else (some ((⟨#[]⟩ : ByteArray), 0, 8))) else (none)) = some (r1, r2, r3) := by first | (rw [hji17] at H; exact H) | (simp only [hji17] at H ⊢; exact H)
                          (try rw [hji17] at c13b0)
                          (try rw [hji17] at c14b0)
                          (try rw [hji17] at c14b1)
                          (try rw [hji17] at c14)
                          (try rw [hji17] at c15b0)
                          (try rw [hji17] at c15b1)
                          (try rw [hji17] at c15)
                          (try rw [hji17] at A16)
                          have hji17w : (IntKind.i64.wrap (6 + (wrap64 (t148)))) = ji17 := (i64_w _).trans hji17
                          by_cases c18 : 0 ≤ (ji17)
                          · rw [if_pos c18] at H
                            have c18b0 := eq_true c18
                            have c18b1 : decide (0 ≤ (ji17)) = true := decide_eq_true c18
                            clear c18
                            have c19b0 := eq_true (of_decide_eq_true (by first | (with_reducible assumption) | assumption) : (ji17) ≤ (sx0_.size : Int))
                            by_cases c20 : t150.toList = (sx0_.extract 0 ((ji17) : Int).toNat).toList
                            · rw [if_pos c20] at H
                              have c20b0 : (t150.toList == (sx0_.extract 0 ((ji17) : Int).toNat).toList) = true := beq_iff_eq.mpr c20
                              have c20b1 : (t150.toList != (sx0_.extract 0 ((ji17) : Int).toNat).toList) = false := bne_eq_false_iff_eq.mpr c20
                              clear c20
                              simp only [Option.some.injEq, Prod.mk.injEq] at H
                              obtain ⟨rfl, rfl, rfl⟩ := H
                              go_wp2_with (first | ((with_reducible refine gate_callee (f := 21) rfl ?_); refine goesL_ (some 50) rfl rfl Try.func21 (by kernel_rfl) rfl #[.string (sx0_.extract 6 ((ji17) : Int).toNat)] rfl (by (try simp only [List.map_toArray, List.map_cons, List.map_nil]); first | done | (simp only [hji17]; rfl) | rfl | (simp only [List.length_drop, List.length_take]; rfl)) ?_; (with_reducible refine (merkhetref06_Put.calls kj9 (sx0_.extract 6 ((ji17) : Int).toNat) t150 t151 _ A16.out).mono ?_); rintro e w21 ⟨rfl, hb⟩; refine ⟨_, rfl, ?_⟩; have n0_ := Aside0.mk (below_step (by repeat (first | (with_reducible first | exact HB.out | apply below_alloc | apply pw_below_drewN | apply below_drew1) | exact HB.out)) hb); clear HB; have HB := n0_; clear n0_; (try clear hb); (try clear hb2); (try clear hk); (try clear hi)))
                              go_ret3
                              exact ⟨by first | rfl | (simp [errW_none, errW_some] <;> rfl) | (simp only [← hji17]; first | rfl | (simp [errW_none, errW_some] <;> rfl)) | (simp [*, errW_none, errW_some] <;> rfl), by repeat (first | (with_reducible first | exact HB.out | apply below_alloc | apply pw_below_drewN | apply below_drew1) | exact HB.out)⟩
                            · rw [if_neg c20] at H
                              have c20b0 : (t150.toList == (sx0_.extract 0 ((ji17) : Int).toNat).toList) = false := beq_eq_false_iff_ne.mpr c20
                              have c20b1 : (t150.toList != (sx0_.extract 0 ((ji17) : Int).toNat).toList) = true := bne_iff_ne.mpr c20
                              simp only [Option.some.injEq, Prod.mk.injEq] at H
                              obtain ⟨rfl, rfl, rfl⟩ := H
                              go_wp2_with (first | ((with_reducible refine gate_callee (f := 21) rfl ?_); refine goesL_ (some 50) rfl rfl Try.func21 (by kernel_rfl) rfl #[.string (sx0_.extract 6 ((ji17) : Int).toNat)] rfl (by (try simp only [List.map_toArray, List.map_cons, List.map_nil]); first | done | (simp only [hji17]; rfl) | rfl | (simp only [List.length_drop, List.length_take]; rfl)) ?_; (with_reducible refine (merkhetref06_Put.calls kj9 (sx0_.extract 6 ((ji17) : Int).toNat) t150 t151 _ A16.out).mono ?_); rintro e w22 ⟨rfl, hb⟩; refine ⟨_, rfl, ?_⟩; have n0_ := Aside0.mk (below_step (by repeat (first | (with_reducible first | exact HB.out | apply below_alloc | apply pw_below_drewN | apply below_drew1) | exact HB.out)) hb); clear HB; have HB := n0_; clear n0_; (try clear hb); (try clear hb2); (try clear hk); (try clear hi)))
                              go_ret3
                              exact ⟨by first | rfl | (simp [errW_none, errW_some] <;> rfl) | (simp only [← hji17]; first | rfl | (simp [errW_none, errW_some] <;> rfl)) | (simp [*, errW_none, errW_some] <;> rfl), by repeat (first | (with_reducible first | exact HB.out | apply below_alloc | apply pw_below_drewN | apply below_drew1) | exact HB.out)⟩
                          · rw [if_neg c18] at H
                            exact absurd H (by simp)
                        · rw [if_neg c15] at H
                          exact absurd H (by simp)
                      · rw [if_neg c14] at H
                        exact absurd H (by simp)
          · rw [if_neg c7] at H
            exact absurd H (by simp)
        · rw [if_neg c6] at H
          exact absurd H (by simp)
-- NOT PRINTED: function 46 (frame_frames)
end Go.Proofs.Ytdpodjgggicaoaa.FG
