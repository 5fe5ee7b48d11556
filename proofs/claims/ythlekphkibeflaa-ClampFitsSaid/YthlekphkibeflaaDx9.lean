-- WRITTEN FOR THIS CLAIM by wip/tools/mp.py, a program of this project that drives the kit's print; the functions that the print does not take are this project's own texts.
import Derived.Test.YthlekphkibeflaaDx0
import Derived.Test.YthlekphkibeflaaDx8
namespace Go.Proofs.Ythlekphkibeflaa.D
open Go.RowKit Go.Proofs.YthlekphkibeflaaW.PrintWords Go.Proofs.YthlekphkibeflaaW.PrintLast Go.Proofs.YthlekphkibeflaaW.PrintMore
attribute [local go_sem] max2_int min2_int max_two min_two max_three min_three max_four min_four   -- for this text's walks alone
set_option linter.unusedVariables false
set_option linter.unusedSimpArgs false

/-! ### merkhetref19_Fits: function 17 -/
mutual
def merkhetref19_Fits.j0 : Nat → List (S34) → List Int → List Int → Bool → Option (Bool)
  | 0, _, _, _, _ => none
  | k + 1, x0, x1, x2, x20 => if x20 = true then (some false) else (merkhetref19_Fits.l0 k x0 x1 x2 0)
def merkhetref19_Fits.l0 : Nat → List (S34) → List Int → List Int → Int → Option (Bool)
  | 0, _, _, _, _ => none
  | k + 1, x0, x1, x2, x7 => if x7 < (x2.length : Int) then (if 0 ≤ x7 then (if (rd x2 x7) < 0 then (some false) else (if (rd x2 x7) > 1152921504606846975 then (some false) else (merkhetref19_Fits.l0 k x0 x1 x2 (wrap64 (x7 + 1))))) else (none)) else (merkhetref19_Fits.l1 k x0 x1 x2 0)
def merkhetref19_Fits.l1 : Nat → List (S34) → List Int → List Int → Int → Option (Bool)
  | 0, _, _, _, _ => none
  | k + 1, x0, x1, x2, x8 => if x8 < (x0.length : Int) then (if 0 ≤ x8 then (if x8 < (x1.length : Int) then (if (rd x1 x8) < 0 then (if x8 < (x2.length : Int) then (merkhetref19_Fits.j3 k x0 x1 x2 x8 (rd x1 x8) ((rd x2 x8) != ((rd_T34 x0 x8).f6))) else (none)) else (merkhetref19_Fits.j3 k x0 x1 x2 x8 (rd x1 x8) false)) else (none)) else (none)) else (some true)
def merkhetref19_Fits.j3 : Nat → List (S34) → List Int → List Int → Int → Int → Bool → Option (Bool)
  | 0, _, _, _, _, _, _ => none
  | k + 1, x0, x1, x2, x8, x9, x62 => if x62 = true then (some false) else (if x9 < 0 then (merkhetref19_Fits.l1 k x0 x1 x2 (wrap64 (x8 + 1))) else (if 0 ≤ x8 then (if x8 < (x0.length : Int) then (if 0 ≤ x9 then (if x9 < (x0.length : Int) then (if ((rd_T34 x0 x8).f7) > ((rd_T34 x0 x9).f7) then (if x8 < (x2.length : Int) then (if x9 < (x2.length : Int) then (if (rd x2 x8) = (rd x2 x9) then (merkhetref19_Fits.l1 k x0 x1 x2 (wrap64 (x8 + 1))) else (some false)) else (none)) else (none)) else (if x8 < (x2.length : Int) then (if x9 < (x2.length : Int) then (if (rd x2 x8) < (rd x2 x9) then (some false) else (if (wrap64 ((rd x2 x8) + ((rd_T34 x0 x8).f7))) > (wrap64 ((rd x2 x9) + ((rd_T34 x0 x9).f7))) then (some false) else (merkhetref19_Fits.l1 k x0 x1 x2 (wrap64 (x8 + 1))))) else (none)) else (none))) else (none)) else (none)) else (none)) else (none)))
end
def merkhetref19_Fits.f (k : Nat) (l0 : List (S34)) (l1 : List Int) (l2 : List Int) : Option (Bool) := (merkhetref19_Right.f k l0 l1).bind fun t140 => (if t140 = true then (merkhetref19_Fits.j0 k l0 l1 l2 ((l2.length : Int) != (l0.length : Int))) else (merkhetref19_Fits.j0 k l0 l1 l2 true))
theorem merkhetref19_Fits.mono_l : ∀ k, (∀ y0 y1 y2 y3, LeO (merkhetref19_Fits.j0 k y0 y1 y2 y3) (merkhetref19_Fits.j0 (k + 1) y0 y1 y2 y3)) ∧ (∀ y0 y1 y2 y3, LeO (merkhetref19_Fits.l0 k y0 y1 y2 y3) (merkhetref19_Fits.l0 (k + 1) y0 y1 y2 y3)) ∧ (∀ y0 y1 y2 y3, LeO (merkhetref19_Fits.l1 k y0 y1 y2 y3) (merkhetref19_Fits.l1 (k + 1) y0 y1 y2 y3)) ∧ (∀ y0 y1 y2 y3 y4 y5, LeO (merkhetref19_Fits.j3 k y0 y1 y2 y3 y4 y5) (merkhetref19_Fits.j3 (k + 1) y0 y1 y2 y3 y4 y5))
  | 0 => ⟨fun _ _ _ _ r h => by simp [merkhetref19_Fits.j0] at h, fun _ _ _ _ r h => by simp [merkhetref19_Fits.l0] at h, fun _ _ _ _ r h => by simp [merkhetref19_Fits.l1] at h, fun _ _ _ _ _ _ r h => by simp [merkhetref19_Fits.j3] at h⟩
  | k + 1 => by
    obtain ⟨ih0, ih1, ih2, ih3⟩ := merkhetref19_Fits.mono_l k
    refine ⟨?_, ?_, ?_, ?_⟩
    · intro y0 y1 y2 y3
      unfold merkhetref19_Fits.j0
      repeat' first
      | (with_reducible exact ih0 _ _ _ _)
      | (with_reducible exact ih1 _ _ _ _)
      | (with_reducible exact ih2 _ _ _ _)
      | (with_reducible exact ih3 _ _ _ _ _ _)
      | (with_reducible exact merkhetref19_Right.mono _ _ _)
      | (with_reducible exact LeO.refl _)
      | (with_reducible exact LeO.none _)
      | (with_reducible refine LeO.ite ?_ ?_)
      | (with_reducible refine LeO.bind ?_ (fun _ => ?_))
      | exact ih0 _ _ _ _
      | exact ih1 _ _ _ _
      | exact ih2 _ _ _ _
      | exact ih3 _ _ _ _ _ _
      | exact merkhetref19_Right.mono _ _ _
      | exact LeO.none _
      | refine LeO.ite ?_ ?_
      | refine LeO.bind ?_ (fun _ => ?_)
    · intro y0 y1 y2 y3
      unfold merkhetref19_Fits.l0
      repeat' first
      | (with_reducible exact ih0 _ _ _ _)
      | (with_reducible exact ih1 _ _ _ _)
      | (with_reducible exact ih2 _ _ _ _)
      | (with_reducible exact ih3 _ _ _ _ _ _)
      | (with_reducible exact merkhetref19_Right.mono _ _ _)
      | (with_reducible exact LeO.refl _)
      | (with_reducible exact LeO.none _)
      | (with_reducible refine LeO.ite ?_ ?_)
      | (with_reducible refine LeO.bind ?_ (fun _ => ?_))
      | exact ih0 _ _ _ _
      | exact ih1 _ _ _ _
      | exact ih2 _ _ _ _
      | exact ih3 _ _ _ _ _ _
      | exact merkhetref19_Right.mono _ _ _
      | exact LeO.none _
      | refine LeO.ite ?_ ?_
      | refine LeO.bind ?_ (fun _ => ?_)
    · intro y0 y1 y2 y3
      unfold merkhetref19_Fits.l1
      repeat' first
      | (with_reducible exact ih0 _ _ _ _)
      | (with_reducible exact ih1 _ _ _ _)
      | (with_reducible exact ih2 _ _ _ _)
      | (with_reducible exact ih3 _ _ _ _ _ _)
      | (with_reducible exact merkhetref19_Right.mono _ _ _)
      | (with_reducible exact LeO.refl _)
      | (with_reducible exact LeO.none _)
      | (with_reducible refine LeO.ite ?_ ?_)
      | (with_reducible refine LeO.bind ?_ (fun _ => ?_))
      | exact ih0 _ _ _ _
      | exact ih1 _ _ _ _
      | exact ih2 _ _ _ _
      | exact ih3 _ _ _ _ _ _
      | exact merkhetref19_Right.mono _ _ _
      | exact LeO.none _
      | refine LeO.ite ?_ ?_
      | refine LeO.bind ?_ (fun _ => ?_)
    · intro y0 y1 y2 y3 y4 y5
      unfold merkhetref19_Fits.j3
      repeat' first
      | (with_reducible exact ih0 _ _ _ _)
      | (with_reducible exact ih1 _ _ _ _)
      | (with_reducible exact ih2 _ _ _ _)
      | (with_reducible exact ih3 _ _ _ _ _ _)
      | (with_reducible exact merkhetref19_Right.mono _ _ _)
      | (with_reducible exact LeO.refl _)
      | (with_reducible exact LeO.none _)
      | (with_reducible refine LeO.ite ?_ ?_)
      | (with_reducible refine LeO.bind ?_ (fun _ => ?_))
      | exact ih0 _ _ _ _
      | exact ih1 _ _ _ _
      | exact ih2 _ _ _ _
      | exact ih3 _ _ _ _ _ _
      | exact merkhetref19_Right.mono _ _ _
      | exact LeO.none _
      | refine LeO.ite ?_ ?_
      | refine LeO.bind ?_ (fun _ => ?_)
theorem merkhetref19_Fits.mono : ∀ a0 a1 a2 k, LeO (merkhetref19_Fits.f k a0 a1 a2) (merkhetref19_Fits.f (k + 1) a0 a1 a2) := by
  intro a0 a1 a2 k
  obtain ⟨ih0, ih1, ih2, ih3⟩ := merkhetref19_Fits.mono_l k
  unfold merkhetref19_Fits.f
  repeat' first
      | (with_reducible exact ih0 _ _ _ _)
      | (with_reducible exact ih1 _ _ _ _)
      | (with_reducible exact ih2 _ _ _ _)
      | (with_reducible exact ih3 _ _ _ _ _ _)
      | (with_reducible exact merkhetref19_Right.mono _ _ _)
      | (with_reducible exact LeO.refl _)
      | (with_reducible exact LeO.none _)
      | (with_reducible refine LeO.ite ?_ ?_)
      | (with_reducible refine LeO.bind ?_ (fun _ => ?_))
      | exact ih0 _ _ _ _
      | exact ih1 _ _ _ _
      | exact ih2 _ _ _ _
      | exact ih3 _ _ _ _ _ _
      | exact merkhetref19_Right.mono _ _ _
      | exact LeO.none _
      | refine LeO.ite ?_ ?_
      | refine LeO.bind ?_ (fun _ => ?_)
set_option maxHeartbeats 8000000 in
set_option maxRecDepth 100000 in
theorem merkhetref19_Fits.calls (k : Nat) (A0 : Option Addr) (c0 : Nat) (l0 : List (S34)) (A1 : Option Addr) (c1 : Nat) (l1 : List Int) (A2 : Option Addr) (c2 : Nat) (l2 : List Int) (r : Bool) (w : World) (hr0 : Kd.C k34 w A0 l0.length l0) (hc0 : l0.length ≤ c0) (hr1 : Kd.C (Kd.int .i64) w A1 l1.length l1) (hc1 : l1.length ≤ c1) (hr2 : Kd.C (Kd.int .i64) w A2 l2.length l2) (hc2 : l2.length ≤ c2) (h : merkhetref19_Fits.f k l0 l1 l2 = some r) :
    Calls Try.prog 17 #[.slice A0 l0.length c0, .slice A1 l1.length c1, .slice A2 l2.length c2] w fun e w' => e = .returned (.bool r) ∧ Below w.heap.size w w' := by
  have HR0 := Aside0.mk hr0
  have HC0 := Aside0.mk hc0
  clear hr0 hc0
  have HR1 := Aside0.mk hr1
  have HC1 := Aside0.mk hc1
  clear hr1 hc1
  have HR2 := Aside0.mk hr2
  have HC2 := Aside0.mk hc2
  clear hr2 hc2
  have HB := Aside0.mk (Below.refl w.heap.size w)
  have H : ((merkhetref19_Right.f k l0 l1).bind fun t140 => (if t140 = true then (merkhetref19_Fits.j0 k l0 l1 l2 ((l2.length : Int) != (l0.length : Int))) else (merkhetref19_Fits.j0 k l0 l1 l2 true))) = some r := h
  clear h
  have HC4 := Aside0.mk H
  clear H
  go_enter Try.func17, Try.ntmps17
  go_upto_region 1 with (fail)
  repeat (go_quiet (fail); go_upto_region 1 with (fail))
  go_cut [20] (fun v20 wc => ∃ (kq : Nat) (x20_3 : Bool), v20 = .bool x20_3 ∧ Aside0 (merkhetref19_Fits.j0 kq l0 l1 l2 x20_3 = some r) ∧ Aside0 (kq ≤ k) ∧ Aside0 (Below w.heap.size w wc))
  case first =>
    have H := HC4.out
    clear HC4
    replace H := Option.bind_eq_some_iff.mp H
    obtain ⟨t140, A50, H⟩ := H
    replace H : (if t140 = true then (merkhetref19_Fits.j0 k l0 l1 l2 ((l2.length : Int) != (l0.length : Int))) else (merkhetref19_Fits.j0 k l0 l1 l2 true)) = some r := H
    have A5 := Aside0.mk A50
    clear A50
    by_cases c6 : t140 = true
    · subst c6
      have H1 : (merkhetref19_Fits.j0 k l0 l1 l2 ((l2.length : Int) != (l0.length : Int))) = some r := by rw [if_pos rfl] at H; exact H
      clear H
      have H := H1
      clear H1
      have H' := Aside0.mk H
      clear H
      go_wp2_with (first | (go_at_call 22; (with_reducible refine (merkhetref19_Right.calls k _ _ l0 _ _ l1 true _ ?side1 ?side2 ?side3 ?side4 A5.out).mono ?_); (case side1 => repeat (first | exact (Kd.C_below HR0.out HB.out) | (with_reducible refine Kd.C_alloc ?_ _) | (with_reducible refine Kd.C_drewN ?_ _) | (with_reducible refine Kd.C_drew ?_))); (case side2 => exact HC0.out); (case side3 => repeat (first | exact (Kd.C_below HR1.out HB.out) | (with_reducible refine Kd.C_alloc ?_ _) | (with_reducible refine Kd.C_drewN ?_ _) | (with_reducible refine Kd.C_drew ?_))); (case side4 => exact HC1.out); rintro e w7 ⟨rfl, hb⟩; have n0_ := Aside0.mk (below_step (by repeat (first | (with_reducible first | exact HB.out | apply below_alloc | apply pw_below_drewN | apply below_drew1) | exact HB.out)) hb); clear HB; have HB := n0_; clear n0_; (try clear hb); (try clear hb2); (try clear hk); (try clear hi)))
      repeat (go_quiet (first | (go_at_call 22; (with_reducible refine (merkhetref19_Right.calls k _ _ l0 _ _ l1 true _ ?side1 ?side2 ?side3 ?side4 A5.out).mono ?_); (case side1 => repeat (first | exact (Kd.C_below HR0.out HB.out) | (with_reducible refine Kd.C_alloc ?_ _) | (with_reducible refine Kd.C_drewN ?_ _) | (with_reducible refine Kd.C_drew ?_))); (case side2 => exact HC0.out); (case side3 => repeat (first | exact (Kd.C_below HR1.out HB.out) | (with_reducible refine Kd.C_alloc ?_ _) | (with_reducible refine Kd.C_drewN ?_ _) | (with_reducible refine Kd.C_drew ?_))); (case side4 => exact HC1.out); rintro e w7 ⟨rfl, hb⟩; have n0_ := Aside0.mk (below_step (by repeat (first | (with_reducible first | exact HB.out | apply below_alloc | apply pw_below_drewN | apply below_drew1) | exact HB.out)) hb); clear HB; have HB := n0_; clear n0_; (try clear hb); (try clear hb2); (try clear hk); (try clear hi))); try go_wp2_with (first | (go_at_call 22; (with_reducible refine (merkhetref19_Right.calls k _ _ l0 _ _ l1 true _ ?side1 ?side2 ?side3 ?side4 A5.out).mono ?_); (case side1 => repeat (first | exact (Kd.C_below HR0.out HB.out) | (with_reducible refine Kd.C_alloc ?_ _) | (with_reducible refine Kd.C_drewN ?_ _) | (with_reducible refine Kd.C_drew ?_))); (case side2 => exact HC0.out); (case side3 => repeat (first | exact (Kd.C_below HR1.out HB.out) | (with_reducible refine Kd.C_alloc ?_ _) | (with_reducible refine Kd.C_drewN ?_ _) | (with_reducible refine Kd.C_drew ?_))); (case side4 => exact HC1.out); rintro e w7 ⟨rfl, hb⟩; have n0_ := Aside0.mk (below_step (by repeat (first | (with_reducible first | exact HB.out | apply below_alloc | apply pw_below_drewN | apply below_drew1) | exact HB.out)) hb); clear HB; have HB := n0_; clear n0_; (try clear hb); (try clear hb2); (try clear hk); (try clear hi))))
      go_meet
      case rel => exact ⟨_, (((l2.length : Int) != (l0.length : Int))), (by first | rfl | (simp; done) | (simp [*]; done)), H', ⟨by first | omega | exact Nat.le_refl _⟩, ⟨by repeat (first | (with_reducible first | exact HB.out | apply below_alloc | apply pw_below_drewN | apply below_drew1) | exact HB.out)⟩⟩
    · replace c6 := Bool.eq_false_iff.mpr c6
      subst c6
      have H1 : (merkhetref19_Fits.j0 k l0 l1 l2 true) = some r := by rw [if_neg (show ¬ (false = true) by decide)] at H; exact H
      clear H
      have H := H1
      clear H1
      have H' := Aside0.mk H
      clear H
      go_wp2_with (first | (go_at_call 22; (with_reducible refine (merkhetref19_Right.calls k _ _ l0 _ _ l1 false _ ?side1 ?side2 ?side3 ?side4 A5.out).mono ?_); (case side1 => repeat (first | exact (Kd.C_below HR0.out HB.out) | (with_reducible refine Kd.C_alloc ?_ _) | (with_reducible refine Kd.C_drewN ?_ _) | (with_reducible refine Kd.C_drew ?_))); (case side2 => exact HC0.out); (case side3 => repeat (first | exact (Kd.C_below HR1.out HB.out) | (with_reducible refine Kd.C_alloc ?_ _) | (with_reducible refine Kd.C_drewN ?_ _) | (with_reducible refine Kd.C_drew ?_))); (case side4 => exact HC1.out); rintro e w8 ⟨rfl, hb⟩; have n0_ := Aside0.mk (below_step (by repeat (first | (with_reducible first | exact HB.out | apply below_alloc | apply pw_below_drewN | apply below_drew1) | exact HB.out)) hb); clear HB; have HB := n0_; clear n0_; (try clear hb); (try clear hb2); (try clear hk); (try clear hi)))
      repeat (go_quiet (first | (go_at_call 22; (with_reducible refine (merkhetref19_Right.calls k _ _ l0 _ _ l1 false _ ?side1 ?side2 ?side3 ?side4 A5.out).mono ?_); (case side1 => repeat (first | exact (Kd.C_below HR0.out HB.out) | (with_reducible refine Kd.C_alloc ?_ _) | (with_reducible refine Kd.C_drewN ?_ _) | (with_reducible refine Kd.C_drew ?_))); (case side2 => exact HC0.out); (case side3 => repeat (first | exact (Kd.C_below HR1.out HB.out) | (with_reducible refine Kd.C_alloc ?_ _) | (with_reducible refine Kd.C_drewN ?_ _) | (with_reducible refine Kd.C_drew ?_))); (case side4 => exact HC1.out); rintro e w8 ⟨rfl, hb⟩; have n0_ := Aside0.mk (below_step (by repeat (first | (with_reducible first | exact HB.out | apply below_alloc | apply pw_below_drewN | apply below_drew1) | exact HB.out)) hb); clear HB; have HB := n0_; clear n0_; (try clear hb); (try clear hb2); (try clear hk); (try clear hi))); try go_wp2_with (first | (go_at_call 22; (with_reducible refine (merkhetref19_Right.calls k _ _ l0 _ _ l1 false _ ?side1 ?side2 ?side3 ?side4 A5.out).mono ?_); (case side1 => repeat (first | exact (Kd.C_below HR0.out HB.out) | (with_reducible refine Kd.C_alloc ?_ _) | (with_reducible refine Kd.C_drewN ?_ _) | (with_reducible refine Kd.C_drew ?_))); (case side2 => exact HC0.out); (case side3 => repeat (first | exact (Kd.C_below HR1.out HB.out) | (with_reducible refine Kd.C_alloc ?_ _) | (with_reducible refine Kd.C_drewN ?_ _) | (with_reducible refine Kd.C_drew ?_))); (case side4 => exact HC1.out); rintro e w8 ⟨rfl, hb⟩; have n0_ := Aside0.mk (below_step (by repeat (first | (with_reducible first | exact HB.out | apply below_alloc | apply pw_below_drewN | apply below_drew1) | exact HB.out)) hb); clear HB; have HB := n0_; clear n0_; (try clear hb); (try clear hb2); (try clear hk); (try clear hi))))
      go_meet
      case rel => exact ⟨_, (true), (by first | rfl | (simp; done) | (simp [*]; done)), H', ⟨by first | omega | exact Nat.le_refl _⟩, ⟨by repeat (first | (with_reducible first | exact HB.out | apply below_alloc | apply pw_below_drewN | apply below_drew1) | exact HB.out)⟩⟩
  case rest =>
    clear HC4
    try clear c1
    try clear c2
    try clear p2
    try clear c6
    obtain ⟨kq, x20_3, rfl, HA, HJ3, HB⟩ := hcut
    cases kq with
    | zero => exact absurd HA.out (by simp [merkhetref19_Fits.j0])
    | succ kj3 =>
      have H := HA.out
      clear HA
      simp only [merkhetref19_Fits.j0] at H
      by_cases c9 : x20_3 = true
      · subst c9
        have H1 : (some false) = some r := by rw [if_pos rfl] at H; exact H
        clear H
        have H := H1
        clear H1
        obtain rfl := Option.some.inj H
        go_wp2
        repeat (go_quiet (fail); try go_wp2)
        go_ret
        exact ⟨by first | rfl | (simp [errW_none, errW_some] <;> rfl) | (simp [*, errW_none, errW_some] <;> rfl), by repeat (first | (with_reducible first | exact HB.out | apply below_alloc | apply pw_below_drewN | apply below_drew1) | exact HB.out)⟩
      · replace c9 := Bool.eq_false_iff.mpr c9
        subst c9
        have H1 : (merkhetref19_Fits.l0 kj3 l0 l1 l2 0) = some r := by rw [if_neg (show ¬ (false = true) by decide)] at H; exact H
        clear H
        have H := H1
        clear H1
        have H' := Aside0.mk H
        clear H
        go_wp2
        repeat (go_quiet (fail); try go_wp2)
        go_loopg [7] kj3 (fun kq v7 w' => ∃ (x7_2 : Int), v7 = .int .i64 x7_2 ∧ Aside0 (merkhetref19_Fits.l0 kq l0 l1 l2 x7_2 = some r) ∧ Aside0 (kq ≤ kj3) ∧ Aside0 (Below w.heap.size w w'))
        case atStart => exact ⟨(0), (by first | rfl | (simp; done) | (simp [*]; done)), H', ⟨Nat.le_refl _⟩, ⟨by repeat (first | (with_reducible first | exact HB.out | apply below_alloc | apply pw_below_drewN | apply below_drew1) | exact HB.out)⟩⟩
        case round =>
          clear H'
          try clear c1
          try clear c2
          try clear p2
          try clear c6
          try clear c9
          try clear p2
          obtain ⟨x7_2, rfl, HA, HK2, HB⟩ := hrel
          cases gk with
          | zero => exact absurd HA.out (by simp [merkhetref19_Fits.l0])
          | succ k2 =>
            have H := HA.out
            clear HA
            simp only [merkhetref19_Fits.l0] at H
            by_cases c10 : x7_2 < (l2.length : Int)
            · rw [if_pos c10] at H
              have c10b0 : decide (x7_2 < (l2.length : Int)) = true := decide_eq_true c10
              clear c10
              by_cases c11 : 0 ≤ x7_2
              · rw [if_pos c11] at H
                have c11b0 : decide (0 ≤ x7_2) = true := decide_eq_true c11
                clear c11
                by_cases c12 : (rd l2 x7_2) < 0
                · rw [if_pos c12] at H
                  have c12b0 : decide ((rd l2 x7_2) < 0) = true := decide_eq_true c12
                  clear c12
                  obtain rfl := Option.some.inj H
                  have p141 : 0 ≤ (x7_2 : Int) := of_decide_eq_true (by first | (with_reducible assumption) | assumption)
                  have q141 : x7_2 < (l2.length : Int) := of_decide_eq_true (by first | (with_reducible assumption) | assumption)
                  obtain ⟨ad141, e141, hx141_0⟩ := Kd.at_int HR2.out x7_2 p141 q141
                  cases e141
                  replace hx141_0 := (HB.out.cell (World.block_lt_of_cell? w _ hx141_0)).trans hx141_0
                  replace p141 := eq_true p141
                  replace q141 := eq_true q141
                  go_wp2
                  repeat (go_quiet (fail); try go_wp2)
                  go_ret
                  exact ⟨by first | rfl | (simp [errW_none, errW_some] <;> rfl) | (simp [*, errW_none, errW_some] <;> rfl), by repeat (first | (with_reducible first | exact HB.out | apply below_alloc | apply pw_below_drewN | apply below_drew1) | exact HB.out)⟩
                · rw [if_neg c12] at H
                  have c12b0 : decide ((rd l2 x7_2) < 0) = false := decide_eq_false c12
                  clear c12
                  by_cases c13 : (rd l2 x7_2) > 1152921504606846975
                  · rw [if_pos c13] at H
                    have c13b0 : decide (1152921504606846975 < (rd l2 x7_2)) = true := decide_eq_true c13
                    clear c13
                    obtain rfl := Option.some.inj H
                    have p141 : 0 ≤ (x7_2 : Int) := of_decide_eq_true (by first | (with_reducible assumption) | assumption)
                    have q141 : x7_2 < (l2.length : Int) := of_decide_eq_true (by first | (with_reducible assumption) | assumption)
                    obtain ⟨ad141, e141, hx141_0⟩ := Kd.at_int HR2.out x7_2 p141 q141
                    cases e141
                    replace hx141_0 := (HB.out.cell (World.block_lt_of_cell? w _ hx141_0)).trans hx141_0
                    replace p141 := eq_true p141
                    replace q141 := eq_true q141
                    have p142 : 0 ≤ (x7_2 : Int) := of_decide_eq_true (by first | (with_reducible assumption) | assumption)
                    have q142 : x7_2 < (l2.length : Int) := of_decide_eq_true (by first | (with_reducible assumption) | assumption)
                    obtain ⟨ad142, e142, hx142_0⟩ := Kd.at_int HR2.out x7_2 p142 q142
                    obtain rfl : ad141 = ad142 := (by injection e142)
                    replace hx142_0 := (HB.out.cell (World.block_lt_of_cell? w _ hx142_0)).trans hx142_0
                    replace p142 := eq_true p142
                    replace q142 := eq_true q142
                    go_wp2
                    repeat (go_quiet (fail); try go_wp2)
                    go_ret
                    exact ⟨by first | rfl | (simp [errW_none, errW_some] <;> rfl) | (simp [*, errW_none, errW_some] <;> rfl), by repeat (first | (with_reducible first | exact HB.out | apply below_alloc | apply pw_below_drewN | apply below_drew1) | exact HB.out)⟩
                  · rw [if_neg c13] at H
                    have c13b0 : decide (1152921504606846975 < (rd l2 x7_2)) = false := decide_eq_false c13
                    clear c13
                    have H' := Aside0.mk H
                    clear H
                    have p141 : 0 ≤ (x7_2 : Int) := of_decide_eq_true (by first | (with_reducible assumption) | assumption)
                    have q141 : x7_2 < (l2.length : Int) := of_decide_eq_true (by first | (with_reducible assumption) | assumption)
                    obtain ⟨ad141, e141, hx141_0⟩ := Kd.at_int HR2.out x7_2 p141 q141
                    cases e141
                    replace hx141_0 := (HB.out.cell (World.block_lt_of_cell? w _ hx141_0)).trans hx141_0
                    replace p141 := eq_true p141
                    replace q141 := eq_true q141
                    have p142 : 0 ≤ (x7_2 : Int) := of_decide_eq_true (by first | (with_reducible assumption) | assumption)
                    have q142 : x7_2 < (l2.length : Int) := of_decide_eq_true (by first | (with_reducible assumption) | assumption)
                    obtain ⟨ad142, e142, hx142_0⟩ := Kd.at_int HR2.out x7_2 p142 q142
                    obtain rfl : ad141 = ad142 := (by injection e142)
                    replace hx142_0 := (HB.out.cell (World.block_lt_of_cell? w _ hx142_0)).trans hx142_0
                    replace p142 := eq_true p142
                    replace q142 := eq_true q142
                    go_wp2
                    repeat (go_quiet (fail); try go_wp2)
                    go_roundg k2
                    case measure => have := HJ3.out; have := HK2.out; omega
                    case rel => exact ⟨(wrap64 (x7_2 + 1)), (by first | rfl | (simp; done) | (simp [*]; done)), H', ⟨by have := HJ3.out; have := HK2.out; omega⟩, ⟨by repeat (first | (with_reducible first | exact HB.out | apply below_alloc | apply pw_below_drewN | apply below_drew1) | exact HB.out)⟩⟩
              · rw [if_neg c11] at H
                exact absurd H (by simp)
            · rw [if_neg c10] at H
              have c10b0 : decide (x7_2 < (l2.length : Int)) = false := decide_eq_false c10
              clear c10
              have H' := Aside0.mk H
              clear H
              go_wp2
              repeat (go_quiet (fail); try go_wp2)
              go_loopg [8] k2 (fun kq v8 w' => ∃ (x8_3 : Int), v8 = .int .i64 x8_3 ∧ Aside0 (merkhetref19_Fits.l1 kq l0 l1 l2 x8_3 = some r) ∧ Aside0 (kq ≤ k2) ∧ Aside0 (Below w.heap.size w w'))
              case atStart => exact ⟨(0), (by first | rfl | (simp; done) | (simp [*]; done)), H', ⟨Nat.le_refl _⟩, ⟨by repeat (first | (with_reducible first | exact HB.out | apply below_alloc | apply pw_below_drewN | apply below_drew1) | exact HB.out)⟩⟩
              case round =>
                clear H'
                try clear c1
                try clear p1
                try clear q1
                try clear hx1
                try clear c2
                try clear p2
                try clear c6
                try clear p6
                try clear c9
                try clear c10
                try clear c10b0
                try clear c11
                try clear c11b0
                try clear c12
                try clear c12b0
                try clear c13
                try clear c13b0
                try clear hx141_0
                try clear hx142_0
                try clear p141
                try clear p142
                try clear p2
                try clear q141
                try clear q142
                obtain ⟨x8_3, rfl, HA, HK3, HB⟩ := hrel
                cases gk with
                | zero => exact absurd HA.out (by simp [merkhetref19_Fits.l1])
                | succ k3 =>
                  have H := HA.out
                  clear HA
                  simp only [merkhetref19_Fits.l1] at H
                  by_cases c14 : x8_3 < (l0.length : Int)
                  · rw [if_pos c14] at H
                    have c14b0 : decide (x8_3 < (l0.length : Int)) = true := decide_eq_true c14
                    clear c14
                    by_cases c15 : 0 ≤ x8_3
                    · rw [if_pos c15] at H
                      have c15b0 : decide (0 ≤ x8_3) = true := decide_eq_true c15
                      clear c15
                      by_cases c16 : x8_3 < (l1.length : Int)
                      · rw [if_pos c16] at H
                        have c16b0 : decide (x8_3 < (l1.length : Int)) = true := decide_eq_true c16
                        clear c16
                        have HC17 := Aside0.mk H
                        clear H
                        have p143 : 0 ≤ (x8_3 : Int) := of_decide_eq_true (by first | (with_reducible assumption) | assumption)
                        have q143 : x8_3 < (l1.length : Int) := of_decide_eq_true (by first | (with_reducible assumption) | assumption)
                        obtain ⟨ad143, e143, hx143_0⟩ := Kd.at_int HR1.out x8_3 p143 q143
                        cases e143
                        replace hx143_0 := (HB.out.cell (World.block_lt_of_cell? w _ hx143_0)).trans hx143_0
                        replace p143 := eq_true p143
                        replace q143 := eq_true q143
                        go_upto_region 12 with (fail)
                        repeat (go_quiet (fail); go_upto_region 12 with (fail))
                        go_cut [62] (fun v62 wc => ∃ (kq : Nat) (x62_16 : Bool), v62 = .bool x62_16 ∧ Aside0 (merkhetref19_Fits.j3 kq l0 l1 l2 x8_3 (rd l1 x8_3) x62_16 = some r) ∧ Aside0 (kq ≤ k3) ∧ Aside0 (Below w.heap.size w wc))
                        case first =>
                          have H := HC17.out
                          clear HC17
                          by_cases c18 : (rd l1 x8_3) < 0
                          · rw [if_pos c18] at H
                            have c18b0 : decide ((rd l1 x8_3) < 0) = true := decide_eq_true c18
                            clear c18
                            (first | rw [c18b0] | (simp only [i64_w, i32_w]; rw [c18b0]) | skip)
                            by_cases c19 : x8_3 < (l2.length : Int)
                            · rw [if_pos c19] at H
                              have c19b0 : decide (x8_3 < (l2.length : Int)) = true := decide_eq_true c19
                              clear c19
                              have H' := Aside0.mk H
                              clear H
                              have p144 : 0 ≤ (x8_3 : Int) := of_decide_eq_true (by first | (with_reducible assumption) | assumption)
                              have q144 : x8_3 < (l2.length : Int) := of_decide_eq_true (by first | (with_reducible assumption) | assumption)
                              obtain ⟨ad144, e144, hx144_0⟩ := Kd.at_int HR2.out x8_3 p144 q144
                              cases e144
                              replace hx144_0 := (HB.out.cell (World.block_lt_of_cell? w _ hx144_0)).trans hx144_0
                              replace p144 := eq_true p144
                              replace q144 := eq_true q144
                              have p145 : 0 ≤ (x8_3 : Int) := of_decide_eq_true (by first | (with_reducible assumption) | assumption)
                              have q145 : x8_3 < (l0.length : Int) := of_decide_eq_true (by first | (with_reducible assumption) | assumption)
                              obtain ⟨ad145, e145, hx145_0, hx145_1, hx145_2, hx145_3, hx145_4, hx145_5, hx145_6, hx145_7⟩ := at_T34 HR0.out x8_3 p145 q145
                              cases e145
                              replace hx145_0 := (HB.out.cell (World.block_lt_of_cell? w _ hx145_0)).trans hx145_0
                              replace hx145_1 := (HB.out.cell (World.block_lt_of_cell? w _ hx145_1)).trans hx145_1
                              replace hx145_2 := (HB.out.cell (World.block_lt_of_cell? w _ hx145_2)).trans hx145_2
                              replace hx145_3 := (HB.out.cell (World.block_lt_of_cell? w _ hx145_3)).trans hx145_3
                              replace hx145_4 := (HB.out.cell (World.block_lt_of_cell? w _ hx145_4)).trans hx145_4
                              replace hx145_5 := (HB.out.cell (World.block_lt_of_cell? w _ hx145_5)).trans hx145_5
                              replace hx145_6 := (HB.out.cell (World.block_lt_of_cell? w _ hx145_6)).trans hx145_6
                              replace hx145_7 := (HB.out.cell (World.block_lt_of_cell? w _ hx145_7)).trans hx145_7
                              replace p145 := eq_true p145
                              replace q145 := eq_true q145
                              go_wp2
                              repeat (go_quiet (fail); try go_wp2)
                              go_meet
                              case rel => exact ⟨_, (((rd l2 x8_3) != ((rd_T34 l0 x8_3).f6))), (by first | rfl | (simp; done) | (simp [*]; done)), H', ⟨by have := HJ3.out; have := HK2.out; have := HK3.out; first | omega | exact Nat.le_refl _⟩, ⟨by repeat (first | (with_reducible first | exact HB.out | apply below_alloc | apply pw_below_drewN | apply below_drew1) | exact HB.out)⟩⟩
                            · rw [if_neg c19] at H
                              exact absurd H (by simp)
                          · rw [if_neg c18] at H
                            have c18b0 : decide ((rd l1 x8_3) < 0) = false := decide_eq_false c18
                            clear c18
                            (first | rw [c18b0] | (simp only [i64_w, i32_w]; rw [c18b0]) | skip)
                            have H' := Aside0.mk H
                            clear H
                            go_wp2
                            repeat (go_quiet (fail); try go_wp2)
                            go_meet
                            case rel => exact ⟨_, (false), (by first | rfl | (simp; done) | (simp [*]; done)), H', ⟨by have := HJ3.out; have := HK2.out; have := HK3.out; first | omega | exact Nat.le_refl _⟩, ⟨by repeat (first | (with_reducible first | exact HB.out | apply below_alloc | apply pw_below_drewN | apply below_drew1) | exact HB.out)⟩⟩
                        case rest =>
                          clear HC17
                          try clear c1
                          try clear p1
                          try clear q1
                          try clear hx1
                          try clear c2
                          try clear p2
                          try clear c6
                          try clear p6
                          try clear c9
                          try clear c10
                          try clear c10b0
                          try clear c11
                          try clear c11b0
                          try clear c12
                          try clear c12b0
                          try clear c13
                          try clear c13b0
                          try clear c14
                          try clear c14b0
                          try clear p14
                          try clear q14
                          try clear hx14
                          try clear c15
                          try clear c15b0
                          try clear c16
                          try clear c16b0
                          try clear c17
                          try clear c18
                          try clear c18b0
                          try clear c19
                          try clear c19b0
                          try clear hx141_0
                          try clear hx142_0
                          try clear hx143_0
                          try clear hx144_0
                          try clear hx145_0
                          try clear hx145_1
                          try clear hx145_2
                          try clear hx145_3
                          try clear hx145_4
                          try clear hx145_5
                          try clear hx145_6
                          try clear hx145_7
                          try clear p1
                          try clear p141
                          try clear p142
                          try clear p143
                          try clear p144
                          try clear p145
                          try clear p2
                          try clear p6
                          try clear q1
                          try clear q141
                          try clear q142
                          try clear q143
                          try clear q144
                          try clear q145
                          obtain ⟨kq, x62_16, rfl, HA, HJ16, HB⟩ := hcut
                          cases kq with
                          | zero => exact absurd HA.out (by simp [merkhetref19_Fits.j3])
                          | succ kj16 =>
                            have H := HA.out
                            clear HA
                            simp only [merkhetref19_Fits.j3] at H
                            by_cases c20 : x62_16 = true
                            · subst c20
                              have H1 : (some false) = some r := by rw [if_pos rfl] at H; exact H
                              clear H
                              have H := H1
                              clear H1
                              obtain rfl := Option.some.inj H
                              go_wp2
                              repeat (go_quiet (fail); try go_wp2)
                              go_ret
                              exact ⟨by first | rfl | (simp [errW_none, errW_some] <;> rfl) | (simp [*, errW_none, errW_some] <;> rfl), by repeat (first | (with_reducible first | exact HB.out | apply below_alloc | apply pw_below_drewN | apply below_drew1) | exact HB.out)⟩
                            · replace c20 := Bool.eq_false_iff.mpr c20
                              subst c20
                              have H1 : (if (rd l1 x8_3) < 0 then (merkhetref19_Fits.l1 kj16 l0 l1 l2 (wrap64 (x8_3 + 1))) else (if 0 ≤ x8_3 then (if x8_3 < (l0.length : Int) then (if 0 ≤ (rd l1 x8_3) then (if (rd l1 x8_3) < (l0.length : Int) then (if ((rd_T34 l0 x8_3).f7) > ((rd_T34 l0 (rd l1 x8_3)).f7) then (if x8_3 < (l2.length : Int) then (if (rd l1 x8_3) < (l2.length : Int) then (if (rd l2 x8_3) = (rd l2 (rd l1 x8_3)) then (merkhetref19_Fits.l1 kj16 l0 l1 l2 (wrap64 (x8_3 + 1))) else (some false)) else (none)) else (none)) else (if x8_3 < (l2.length : Int) then (if (rd l1 x8_3) < (l2.length : Int) then (if (rd l2 x8_3) < (rd l2 (rd l1 x8_3)) then (some false) else (if (wrap64 ((rd l2 x8_3) + ((rd_T34 l0 x8_3).f7))) > (wrap64 ((rd l2 (rd l1 x8_3)) + ((rd_T34 l0 (rd l1 x8_3)).f7))) then (some false) else (merkhetref19_Fits.l1 kj16 l0 l1 l2 (wrap64 (x8_3 + 1))))) else (none)) else (none))) else (none)) else (none)) else (none)) else (none))) = some r := by rw [if_neg (show ¬ (false = true) by decide)] at H; exact H
                              clear H
                              have H := H1
                              clear H1
                              by_cases c21 : (rd l1 x8_3) < 0
                              · rw [if_pos c21] at H
                                have c21b0 : decide ((rd l1 x8_3) < 0) = true := decide_eq_true c21
                                clear c21
                                have H' := Aside0.mk H
                                clear H
                                go_wp2
                                repeat (go_quiet (fail); try go_wp2)
                                go_roundg kj16
                                case measure => have := HJ3.out; have := HK2.out; have := HK3.out; have := HJ16.out; omega
                                case rel => exact ⟨(wrap64 (x8_3 + 1)), (by first | rfl | (simp; done) | (simp [*]; done)), H', ⟨by have := HJ3.out; have := HK2.out; have := HK3.out; have := HJ16.out; omega⟩, ⟨by repeat (first | (with_reducible first | exact HB.out | apply below_alloc | apply pw_below_drewN | apply below_drew1) | exact HB.out)⟩⟩
                              · rw [if_neg c21] at H
                                have c21b0 : decide ((rd l1 x8_3) < 0) = false := decide_eq_false c21
                                clear c21
                                by_cases c22 : 0 ≤ x8_3
                                · rw [if_pos c22] at H
                                  have c22b0 : decide (0 ≤ x8_3) = true := decide_eq_true c22
                                  clear c22
                                  by_cases c23 : x8_3 < (l0.length : Int)
                                  · rw [if_pos c23] at H
                                    have c23b0 : decide (x8_3 < (l0.length : Int)) = true := decide_eq_true c23
                                    clear c23
                                    by_cases c24 : 0 ≤ (rd l1 x8_3)
                                    · rw [if_pos c24] at H
                                      have c24b0 : decide (0 ≤ (rd l1 x8_3)) = true := decide_eq_true c24
                                      clear c24
                                      by_cases c25 : (rd l1 x8_3) < (l0.length : Int)
                                      · rw [if_pos c25] at H
                                        have c25b0 : decide ((rd l1 x8_3) < (l0.length : Int)) = true := decide_eq_true c25
                                        clear c25
                                        by_cases c26 : ((rd_T34 l0 x8_3).f7) > ((rd_T34 l0 (rd l1 x8_3)).f7)
                                        · rw [if_pos c26] at H
                                          have c26b0 : decide (((rd_T34 l0 (rd l1 x8_3)).f7) < ((rd_T34 l0 x8_3).f7)) = true := decide_eq_true c26
                                          clear c26
                                          by_cases c27 : x8_3 < (l2.length : Int)
                                          · rw [if_pos c27] at H
                                            have c27b0 : decide (x8_3 < (l2.length : Int)) = true := decide_eq_true c27
                                            clear c27
                                            by_cases c28 : (rd l1 x8_3) < (l2.length : Int)
                                            · rw [if_pos c28] at H
                                              have c28b0 : decide ((rd l1 x8_3) < (l2.length : Int)) = true := decide_eq_true c28
                                              clear c28
                                              by_cases c29 : (rd l2 x8_3) = (rd l2 (rd l1 x8_3))
                                              · rw [if_pos c29] at H
                                                have c29b0 : ((rd l2 x8_3) == (rd l2 (rd l1 x8_3))) = true := beq_iff_eq.mpr c29
                                                have c29b1 : ((rd l2 x8_3) != (rd l2 (rd l1 x8_3))) = false := bne_eq_false_iff_eq.mpr c29
                                                clear c29
                                                have H' := Aside0.mk H
                                                clear H
                                                have p146 : 0 ≤ (x8_3 : Int) := of_decide_eq_true (by first | (with_reducible assumption) | assumption)
                                                have q146 : x8_3 < (l0.length : Int) := of_decide_eq_true (by first | (with_reducible assumption) | assumption)
                                                obtain ⟨ad146, e146, hx146_0, hx146_1, hx146_2, hx146_3, hx146_4, hx146_5, hx146_6, hx146_7⟩ := at_T34 HR0.out x8_3 p146 q146
                                                cases e146
                                                replace hx146_0 := (HB.out.cell (World.block_lt_of_cell? w _ hx146_0)).trans hx146_0
                                                replace hx146_1 := (HB.out.cell (World.block_lt_of_cell? w _ hx146_1)).trans hx146_1
                                                replace hx146_2 := (HB.out.cell (World.block_lt_of_cell? w _ hx146_2)).trans hx146_2
                                                replace hx146_3 := (HB.out.cell (World.block_lt_of_cell? w _ hx146_3)).trans hx146_3
                                                replace hx146_4 := (HB.out.cell (World.block_lt_of_cell? w _ hx146_4)).trans hx146_4
                                                replace hx146_5 := (HB.out.cell (World.block_lt_of_cell? w _ hx146_5)).trans hx146_5
                                                replace hx146_6 := (HB.out.cell (World.block_lt_of_cell? w _ hx146_6)).trans hx146_6
                                                replace hx146_7 := (HB.out.cell (World.block_lt_of_cell? w _ hx146_7)).trans hx146_7
                                                replace p146 := eq_true p146
                                                replace q146 := eq_true q146
                                                have p147 : 0 ≤ ((rd l1 x8_3) : Int) := of_decide_eq_true (by first | (with_reducible assumption) | assumption)
                                                have q147 : (rd l1 x8_3) < (l0.length : Int) := of_decide_eq_true (by first | (with_reducible assumption) | assumption)
                                                obtain ⟨ad147, e147, hx147_0, hx147_1, hx147_2, hx147_3, hx147_4, hx147_5, hx147_6, hx147_7⟩ := at_T34 HR0.out (rd l1 x8_3) p147 q147
                                                obtain rfl : ad146 = ad147 := (by injection e147)
                                                replace hx147_0 := (HB.out.cell (World.block_lt_of_cell? w _ hx147_0)).trans hx147_0
                                                replace hx147_1 := (HB.out.cell (World.block_lt_of_cell? w _ hx147_1)).trans hx147_1
                                                replace hx147_2 := (HB.out.cell (World.block_lt_of_cell? w _ hx147_2)).trans hx147_2
                                                replace hx147_3 := (HB.out.cell (World.block_lt_of_cell? w _ hx147_3)).trans hx147_3
                                                replace hx147_4 := (HB.out.cell (World.block_lt_of_cell? w _ hx147_4)).trans hx147_4
                                                replace hx147_5 := (HB.out.cell (World.block_lt_of_cell? w _ hx147_5)).trans hx147_5
                                                replace hx147_6 := (HB.out.cell (World.block_lt_of_cell? w _ hx147_6)).trans hx147_6
                                                replace hx147_7 := (HB.out.cell (World.block_lt_of_cell? w _ hx147_7)).trans hx147_7
                                                replace p147 := eq_true p147
                                                replace q147 := eq_true q147
                                                have p148 : 0 ≤ (x8_3 : Int) := of_decide_eq_true (by first | (with_reducible assumption) | assumption)
                                                have q148 : x8_3 < (l2.length : Int) := of_decide_eq_true (by first | (with_reducible assumption) | assumption)
                                                obtain ⟨ad148, e148, hx148_0⟩ := Kd.at_int HR2.out x8_3 p148 q148
                                                cases e148
                                                replace hx148_0 := (HB.out.cell (World.block_lt_of_cell? w _ hx148_0)).trans hx148_0
                                                replace p148 := eq_true p148
                                                replace q148 := eq_true q148
                                                have p149 : 0 ≤ ((rd l1 x8_3) : Int) := of_decide_eq_true (by first | (with_reducible assumption) | assumption)
                                                have q149 : (rd l1 x8_3) < (l2.length : Int) := of_decide_eq_true (by first | (with_reducible assumption) | assumption)
                                                obtain ⟨ad149, e149, hx149_0⟩ := Kd.at_int HR2.out (rd l1 x8_3) p149 q149
                                                obtain rfl : ad148 = ad149 := (by injection e149)
                                                replace hx149_0 := (HB.out.cell (World.block_lt_of_cell? w _ hx149_0)).trans hx149_0
                                                replace p149 := eq_true p149
                                                replace q149 := eq_true q149
                                                go_wp2
                                                repeat (go_quiet (fail); try go_wp2)
                                                go_roundg kj16
                                                case measure => have := HJ3.out; have := HK2.out; have := HK3.out; have := HJ16.out; omega
                                                case rel => exact ⟨(wrap64 (x8_3 + 1)), (by first | rfl | (simp; done) | (simp [*]; done)), H', ⟨by have := HJ3.out; have := HK2.out; have := HK3.out; have := HJ16.out; omega⟩, ⟨by repeat (first | (with_reducible first | exact HB.out | apply below_alloc | apply pw_below_drewN | apply below_drew1) | exact HB.out)⟩⟩
                                              · rw [if_neg c29] at H
                                                have c29b0 : ((rd l2 x8_3) == (rd l2 (rd l1 x8_3))) = false := beq_eq_false_iff_ne.mpr c29
                                                have c29b1 : ((rd l2 x8_3) != (rd l2 (rd l1 x8_3))) = true := bne_iff_ne.mpr c29
                                                obtain rfl := Option.some.inj H
                                                have p146 : 0 ≤ (x8_3 : Int) := of_decide_eq_true (by first | (with_reducible assumption) | assumption)
                                                have q146 : x8_3 < (l0.length : Int) := of_decide_eq_true (by first | (with_reducible assumption) | assumption)
                                                obtain ⟨ad146, e146, hx146_0, hx146_1, hx146_2, hx146_3, hx146_4, hx146_5, hx146_6, hx146_7⟩ := at_T34 HR0.out x8_3 p146 q146
                                                cases e146
                                                replace hx146_0 := (HB.out.cell (World.block_lt_of_cell? w _ hx146_0)).trans hx146_0
                                                replace hx146_1 := (HB.out.cell (World.block_lt_of_cell? w _ hx146_1)).trans hx146_1
                                                replace hx146_2 := (HB.out.cell (World.block_lt_of_cell? w _ hx146_2)).trans hx146_2
                                                replace hx146_3 := (HB.out.cell (World.block_lt_of_cell? w _ hx146_3)).trans hx146_3
                                                replace hx146_4 := (HB.out.cell (World.block_lt_of_cell? w _ hx146_4)).trans hx146_4
                                                replace hx146_5 := (HB.out.cell (World.block_lt_of_cell? w _ hx146_5)).trans hx146_5
                                                replace hx146_6 := (HB.out.cell (World.block_lt_of_cell? w _ hx146_6)).trans hx146_6
                                                replace hx146_7 := (HB.out.cell (World.block_lt_of_cell? w _ hx146_7)).trans hx146_7
                                                replace p146 := eq_true p146
                                                replace q146 := eq_true q146
                                                have p147 : 0 ≤ ((rd l1 x8_3) : Int) := of_decide_eq_true (by first | (with_reducible assumption) | assumption)
                                                have q147 : (rd l1 x8_3) < (l0.length : Int) := of_decide_eq_true (by first | (with_reducible assumption) | assumption)
                                                obtain ⟨ad147, e147, hx147_0, hx147_1, hx147_2, hx147_3, hx147_4, hx147_5, hx147_6, hx147_7⟩ := at_T34 HR0.out (rd l1 x8_3) p147 q147
                                                obtain rfl : ad146 = ad147 := (by injection e147)
                                                replace hx147_0 := (HB.out.cell (World.block_lt_of_cell? w _ hx147_0)).trans hx147_0
                                                replace hx147_1 := (HB.out.cell (World.block_lt_of_cell? w _ hx147_1)).trans hx147_1
                                                replace hx147_2 := (HB.out.cell (World.block_lt_of_cell? w _ hx147_2)).trans hx147_2
                                                replace hx147_3 := (HB.out.cell (World.block_lt_of_cell? w _ hx147_3)).trans hx147_3
                                                replace hx147_4 := (HB.out.cell (World.block_lt_of_cell? w _ hx147_4)).trans hx147_4
                                                replace hx147_5 := (HB.out.cell (World.block_lt_of_cell? w _ hx147_5)).trans hx147_5
                                                replace hx147_6 := (HB.out.cell (World.block_lt_of_cell? w _ hx147_6)).trans hx147_6
                                                replace hx147_7 := (HB.out.cell (World.block_lt_of_cell? w _ hx147_7)).trans hx147_7
                                                replace p147 := eq_true p147
                                                replace q147 := eq_true q147
                                                have p148 : 0 ≤ (x8_3 : Int) := of_decide_eq_true (by first | (with_reducible assumption) | assumption)
                                                have q148 : x8_3 < (l2.length : Int) := of_decide_eq_true (by first | (with_reducible assumption) | assumption)
                                                obtain ⟨ad148, e148, hx148_0⟩ := Kd.at_int HR2.out x8_3 p148 q148
                                                cases e148
                                                replace hx148_0 := (HB.out.cell (World.block_lt_of_cell? w _ hx148_0)).trans hx148_0
                                                replace p148 := eq_true p148
                                                replace q148 := eq_true q148
                                                have p149 : 0 ≤ ((rd l1 x8_3) : Int) := of_decide_eq_true (by first | (with_reducible assumption) | assumption)
                                                have q149 : (rd l1 x8_3) < (l2.length : Int) := of_decide_eq_true (by first | (with_reducible assumption) | assumption)
                                                obtain ⟨ad149, e149, hx149_0⟩ := Kd.at_int HR2.out (rd l1 x8_3) p149 q149
                                                obtain rfl : ad148 = ad149 := (by injection e149)
                                                replace hx149_0 := (HB.out.cell (World.block_lt_of_cell? w _ hx149_0)).trans hx149_0
                                                replace p149 := eq_true p149
                                                replace q149 := eq_true q149
                                                go_wp2
                                                repeat (go_quiet (fail); try go_wp2)
                                                go_ret
                                                exact ⟨by first | rfl | (simp [errW_none, errW_some] <;> rfl) | (simp [*, errW_none, errW_some] <;> rfl), by repeat (first | (with_reducible first | exact HB.out | apply below_alloc | apply pw_below_drewN | apply below_drew1) | exact HB.out)⟩
                                            · rw [if_neg c28] at H
                                              exact absurd H (by simp)
                                          · rw [if_neg c27] at H
                                            exact absurd H (by simp)
                                        · rw [if_neg c26] at H
                                          have c26b0 : decide (((rd_T34 l0 (rd l1 x8_3)).f7) < ((rd_T34 l0 x8_3).f7)) = false := decide_eq_false c26
                                          clear c26
                                          by_cases c30 : x8_3 < (l2.length : Int)
                                          · rw [if_pos c30] at H
                                            have c30b0 : decide (x8_3 < (l2.length : Int)) = true := decide_eq_true c30
                                            clear c30
                                            by_cases c31 : (rd l1 x8_3) < (l2.length : Int)
                                            · rw [if_pos c31] at H
                                              have c31b0 : decide ((rd l1 x8_3) < (l2.length : Int)) = true := decide_eq_true c31
                                              clear c31
                                              by_cases c32 : (rd l2 x8_3) < (rd l2 (rd l1 x8_3))
                                              · rw [if_pos c32] at H
                                                have c32b0 : decide ((rd l2 x8_3) < (rd l2 (rd l1 x8_3))) = true := decide_eq_true c32
                                                clear c32
                                                obtain rfl := Option.some.inj H
                                                have p146 : 0 ≤ (x8_3 : Int) := of_decide_eq_true (by first | (with_reducible assumption) | assumption)
                                                have q146 : x8_3 < (l0.length : Int) := of_decide_eq_true (by first | (with_reducible assumption) | assumption)
                                                obtain ⟨ad146, e146, hx146_0, hx146_1, hx146_2, hx146_3, hx146_4, hx146_5, hx146_6, hx146_7⟩ := at_T34 HR0.out x8_3 p146 q146
                                                cases e146
                                                replace hx146_0 := (HB.out.cell (World.block_lt_of_cell? w _ hx146_0)).trans hx146_0
                                                replace hx146_1 := (HB.out.cell (World.block_lt_of_cell? w _ hx146_1)).trans hx146_1
                                                replace hx146_2 := (HB.out.cell (World.block_lt_of_cell? w _ hx146_2)).trans hx146_2
                                                replace hx146_3 := (HB.out.cell (World.block_lt_of_cell? w _ hx146_3)).trans hx146_3
                                                replace hx146_4 := (HB.out.cell (World.block_lt_of_cell? w _ hx146_4)).trans hx146_4
                                                replace hx146_5 := (HB.out.cell (World.block_lt_of_cell? w _ hx146_5)).trans hx146_5
                                                replace hx146_6 := (HB.out.cell (World.block_lt_of_cell? w _ hx146_6)).trans hx146_6
                                                replace hx146_7 := (HB.out.cell (World.block_lt_of_cell? w _ hx146_7)).trans hx146_7
                                                replace p146 := eq_true p146
                                                replace q146 := eq_true q146
                                                have p147 : 0 ≤ ((rd l1 x8_3) : Int) := of_decide_eq_true (by first | (with_reducible assumption) | assumption)
                                                have q147 : (rd l1 x8_3) < (l0.length : Int) := of_decide_eq_true (by first | (with_reducible assumption) | assumption)
                                                obtain ⟨ad147, e147, hx147_0, hx147_1, hx147_2, hx147_3, hx147_4, hx147_5, hx147_6, hx147_7⟩ := at_T34 HR0.out (rd l1 x8_3) p147 q147
                                                obtain rfl : ad146 = ad147 := (by injection e147)
                                                replace hx147_0 := (HB.out.cell (World.block_lt_of_cell? w _ hx147_0)).trans hx147_0
                                                replace hx147_1 := (HB.out.cell (World.block_lt_of_cell? w _ hx147_1)).trans hx147_1
                                                replace hx147_2 := (HB.out.cell (World.block_lt_of_cell? w _ hx147_2)).trans hx147_2
                                                replace hx147_3 := (HB.out.cell (World.block_lt_of_cell? w _ hx147_3)).trans hx147_3
                                                replace hx147_4 := (HB.out.cell (World.block_lt_of_cell? w _ hx147_4)).trans hx147_4
                                                replace hx147_5 := (HB.out.cell (World.block_lt_of_cell? w _ hx147_5)).trans hx147_5
                                                replace hx147_6 := (HB.out.cell (World.block_lt_of_cell? w _ hx147_6)).trans hx147_6
                                                replace hx147_7 := (HB.out.cell (World.block_lt_of_cell? w _ hx147_7)).trans hx147_7
                                                replace p147 := eq_true p147
                                                replace q147 := eq_true q147
                                                have p150 : 0 ≤ (x8_3 : Int) := of_decide_eq_true (by first | (with_reducible assumption) | assumption)
                                                have q150 : x8_3 < (l2.length : Int) := of_decide_eq_true (by first | (with_reducible assumption) | assumption)
                                                obtain ⟨ad150, e150, hx150_0⟩ := Kd.at_int HR2.out x8_3 p150 q150
                                                cases e150
                                                replace hx150_0 := (HB.out.cell (World.block_lt_of_cell? w _ hx150_0)).trans hx150_0
                                                replace p150 := eq_true p150
                                                replace q150 := eq_true q150
                                                have p151 : 0 ≤ ((rd l1 x8_3) : Int) := of_decide_eq_true (by first | (with_reducible assumption) | assumption)
                                                have q151 : (rd l1 x8_3) < (l2.length : Int) := of_decide_eq_true (by first | (with_reducible assumption) | assumption)
                                                obtain ⟨ad151, e151, hx151_0⟩ := Kd.at_int HR2.out (rd l1 x8_3) p151 q151
                                                obtain rfl : ad150 = ad151 := (by injection e151)
                                                replace hx151_0 := (HB.out.cell (World.block_lt_of_cell? w _ hx151_0)).trans hx151_0
                                                replace p151 := eq_true p151
                                                replace q151 := eq_true q151
                                                go_wp2
                                                repeat (go_quiet (fail); try go_wp2)
                                                go_ret
                                                exact ⟨by first | rfl | (simp [errW_none, errW_some] <;> rfl) | (simp [*, errW_none, errW_some] <;> rfl), by repeat (first | (with_reducible first | exact HB.out | apply below_alloc | apply pw_below_drewN | apply below_drew1) | exact HB.out)⟩
                                              · rw [if_neg c32] at H
                                                have c32b0 : decide ((rd l2 x8_3) < (rd l2 (rd l1 x8_3))) = false := decide_eq_false c32
                                                clear c32
                                                by_cases c33 : (wrap64 ((rd l2 x8_3) + ((rd_T34 l0 x8_3).f7))) > (wrap64 ((rd l2 (rd l1 x8_3)) + ((rd_T34 l0 (rd l1 x8_3)).f7)))
                                                · rw [if_pos c33] at H
                                                  have c33b0 : decide ((wrap64 ((rd l2 (rd l1 x8_3)) + ((rd_T34 l0 (rd l1 x8_3)).f7))) < (wrap64 ((rd l2 x8_3) + ((rd_T34 l0 x8_3).f7)))) = true := decide_eq_true c33
                                                  clear c33
                                                  obtain rfl := Option.some.inj H
                                                  have p146 : 0 ≤ (x8_3 : Int) := of_decide_eq_true (by first | (with_reducible assumption) | assumption)
                                                  have q146 : x8_3 < (l0.length : Int) := of_decide_eq_true (by first | (with_reducible assumption) | assumption)
                                                  obtain ⟨ad146, e146, hx146_0, hx146_1, hx146_2, hx146_3, hx146_4, hx146_5, hx146_6, hx146_7⟩ := at_T34 HR0.out x8_3 p146 q146
                                                  cases e146
                                                  replace hx146_0 := (HB.out.cell (World.block_lt_of_cell? w _ hx146_0)).trans hx146_0
                                                  replace hx146_1 := (HB.out.cell (World.block_lt_of_cell? w _ hx146_1)).trans hx146_1
                                                  replace hx146_2 := (HB.out.cell (World.block_lt_of_cell? w _ hx146_2)).trans hx146_2
                                                  replace hx146_3 := (HB.out.cell (World.block_lt_of_cell? w _ hx146_3)).trans hx146_3
                                                  replace hx146_4 := (HB.out.cell (World.block_lt_of_cell? w _ hx146_4)).trans hx146_4
                                                  replace hx146_5 := (HB.out.cell (World.block_lt_of_cell? w _ hx146_5)).trans hx146_5
                                                  replace hx146_6 := (HB.out.cell (World.block_lt_of_cell? w _ hx146_6)).trans hx146_6
                                                  replace hx146_7 := (HB.out.cell (World.block_lt_of_cell? w _ hx146_7)).trans hx146_7
                                                  replace p146 := eq_true p146
                                                  replace q146 := eq_true q146
                                                  have p147 : 0 ≤ ((rd l1 x8_3) : Int) := of_decide_eq_true (by first | (with_reducible assumption) | assumption)
                                                  have q147 : (rd l1 x8_3) < (l0.length : Int) := of_decide_eq_true (by first | (with_reducible assumption) | assumption)
                                                  obtain ⟨ad147, e147, hx147_0, hx147_1, hx147_2, hx147_3, hx147_4, hx147_5, hx147_6, hx147_7⟩ := at_T34 HR0.out (rd l1 x8_3) p147 q147
                                                  obtain rfl : ad146 = ad147 := (by injection e147)
                                                  replace hx147_0 := (HB.out.cell (World.block_lt_of_cell? w _ hx147_0)).trans hx147_0
                                                  replace hx147_1 := (HB.out.cell (World.block_lt_of_cell? w _ hx147_1)).trans hx147_1
                                                  replace hx147_2 := (HB.out.cell (World.block_lt_of_cell? w _ hx147_2)).trans hx147_2
                                                  replace hx147_3 := (HB.out.cell (World.block_lt_of_cell? w _ hx147_3)).trans hx147_3
                                                  replace hx147_4 := (HB.out.cell (World.block_lt_of_cell? w _ hx147_4)).trans hx147_4
                                                  replace hx147_5 := (HB.out.cell (World.block_lt_of_cell? w _ hx147_5)).trans hx147_5
                                                  replace hx147_6 := (HB.out.cell (World.block_lt_of_cell? w _ hx147_6)).trans hx147_6
                                                  replace hx147_7 := (HB.out.cell (World.block_lt_of_cell? w _ hx147_7)).trans hx147_7
                                                  replace p147 := eq_true p147
                                                  replace q147 := eq_true q147
                                                  have p150 : 0 ≤ (x8_3 : Int) := of_decide_eq_true (by first | (with_reducible assumption) | assumption)
                                                  have q150 : x8_3 < (l2.length : Int) := of_decide_eq_true (by first | (with_reducible assumption) | assumption)
                                                  obtain ⟨ad150, e150, hx150_0⟩ := Kd.at_int HR2.out x8_3 p150 q150
                                                  cases e150
                                                  replace hx150_0 := (HB.out.cell (World.block_lt_of_cell? w _ hx150_0)).trans hx150_0
                                                  replace p150 := eq_true p150
                                                  replace q150 := eq_true q150
                                                  have p151 : 0 ≤ ((rd l1 x8_3) : Int) := of_decide_eq_true (by first | (with_reducible assumption) | assumption)
                                                  have q151 : (rd l1 x8_3) < (l2.length : Int) := of_decide_eq_true (by first | (with_reducible assumption) | assumption)
                                                  obtain ⟨ad151, e151, hx151_0⟩ := Kd.at_int HR2.out (rd l1 x8_3) p151 q151
                                                  obtain rfl : ad150 = ad151 := (by injection e151)
                                                  replace hx151_0 := (HB.out.cell (World.block_lt_of_cell? w _ hx151_0)).trans hx151_0
                                                  replace p151 := eq_true p151
                                                  replace q151 := eq_true q151
                                                  have p152 : 0 ≤ (x8_3 : Int) := of_decide_eq_true (by first | (with_reducible assumption) | assumption)
                                                  have q152 : x8_3 < (l2.length : Int) := of_decide_eq_true (by first | (with_reducible assumption) | assumption)
                                                  obtain ⟨ad152, e152, hx152_0⟩ := Kd.at_int HR2.out x8_3 p152 q152
                                                  obtain rfl : ad150 = ad152 := (by injection e152)
                                                  replace hx152_0 := (HB.out.cell (World.block_lt_of_cell? w _ hx152_0)).trans hx152_0
                                                  replace p152 := eq_true p152
                                                  replace q152 := eq_true q152
                                                  have p153 : 0 ≤ (x8_3 : Int) := of_decide_eq_true (by first | (with_reducible assumption) | assumption)
                                                  have q153 : x8_3 < (l0.length : Int) := of_decide_eq_true (by first | (with_reducible assumption) | assumption)
                                                  obtain ⟨ad153, e153, hx153_0, hx153_1, hx153_2, hx153_3, hx153_4, hx153_5, hx153_6, hx153_7⟩ := at_T34 HR0.out x8_3 p153 q153
                                                  obtain rfl : ad146 = ad153 := (by injection e153)
                                                  replace hx153_0 := (HB.out.cell (World.block_lt_of_cell? w _ hx153_0)).trans hx153_0
                                                  replace hx153_1 := (HB.out.cell (World.block_lt_of_cell? w _ hx153_1)).trans hx153_1
                                                  replace hx153_2 := (HB.out.cell (World.block_lt_of_cell? w _ hx153_2)).trans hx153_2
                                                  replace hx153_3 := (HB.out.cell (World.block_lt_of_cell? w _ hx153_3)).trans hx153_3
                                                  replace hx153_4 := (HB.out.cell (World.block_lt_of_cell? w _ hx153_4)).trans hx153_4
                                                  replace hx153_5 := (HB.out.cell (World.block_lt_of_cell? w _ hx153_5)).trans hx153_5
                                                  replace hx153_6 := (HB.out.cell (World.block_lt_of_cell? w _ hx153_6)).trans hx153_6
                                                  replace hx153_7 := (HB.out.cell (World.block_lt_of_cell? w _ hx153_7)).trans hx153_7
                                                  replace p153 := eq_true p153
                                                  replace q153 := eq_true q153
                                                  have p154 : 0 ≤ ((rd l1 x8_3) : Int) := of_decide_eq_true (by first | (with_reducible assumption) | assumption)
                                                  have q154 : (rd l1 x8_3) < (l2.length : Int) := of_decide_eq_true (by first | (with_reducible assumption) | assumption)
                                                  obtain ⟨ad154, e154, hx154_0⟩ := Kd.at_int HR2.out (rd l1 x8_3) p154 q154
                                                  obtain rfl : ad150 = ad154 := (by injection e154)
                                                  replace hx154_0 := (HB.out.cell (World.block_lt_of_cell? w _ hx154_0)).trans hx154_0
                                                  replace p154 := eq_true p154
                                                  replace q154 := eq_true q154
                                                  have p155 : 0 ≤ ((rd l1 x8_3) : Int) := of_decide_eq_true (by first | (with_reducible assumption) | assumption)
                                                  have q155 : (rd l1 x8_3) < (l0.length : Int) := of_decide_eq_true (by first | (with_reducible assumption) | assumption)
                                                  obtain ⟨ad155, e155, hx155_0, hx155_1, hx155_2, hx155_3, hx155_4, hx155_5, hx155_6, hx155_7⟩ := at_T34 HR0.out (rd l1 x8_3) p155 q155
                                                  obtain rfl : ad146 = ad155 := (by injection e155)
                                                  replace hx155_0 := (HB.out.cell (World.block_lt_of_cell? w _ hx155_0)).trans hx155_0
                                                  replace hx155_1 := (HB.out.cell (World.block_lt_of_cell? w _ hx155_1)).trans hx155_1
                                                  replace hx155_2 := (HB.out.cell (World.block_lt_of_cell? w _ hx155_2)).trans hx155_2
                                                  replace hx155_3 := (HB.out.cell (World.block_lt_of_cell? w _ hx155_3)).trans hx155_3
                                                  replace hx155_4 := (HB.out.cell (World.block_lt_of_cell? w _ hx155_4)).trans hx155_4
                                                  replace hx155_5 := (HB.out.cell (World.block_lt_of_cell? w _ hx155_5)).trans hx155_5
                                                  replace hx155_6 := (HB.out.cell (World.block_lt_of_cell? w _ hx155_6)).trans hx155_6
                                                  replace hx155_7 := (HB.out.cell (World.block_lt_of_cell? w _ hx155_7)).trans hx155_7
                                                  replace p155 := eq_true p155
                                                  replace q155 := eq_true q155
                                                  go_wp2
                                                  repeat (go_quiet (fail); try go_wp2)
                                                  go_ret
                                                  exact ⟨by first | rfl | (simp [errW_none, errW_some] <;> rfl) | (simp [*, errW_none, errW_some] <;> rfl), by repeat (first | (with_reducible first | exact HB.out | apply below_alloc | apply pw_below_drewN | apply below_drew1) | exact HB.out)⟩
                                                · rw [if_neg c33] at H
                                                  have c33b0 : decide ((wrap64 ((rd l2 (rd l1 x8_3)) + ((rd_T34 l0 (rd l1 x8_3)).f7))) < (wrap64 ((rd l2 x8_3) + ((rd_T34 l0 x8_3).f7)))) = false := decide_eq_false c33
                                                  clear c33
                                                  have H' := Aside0.mk H
                                                  clear H
                                                  have p146 : 0 ≤ (x8_3 : Int) := of_decide_eq_true (by first | (with_reducible assumption) | assumption)
                                                  have q146 : x8_3 < (l0.length : Int) := of_decide_eq_true (by first | (with_reducible assumption) | assumption)
                                                  obtain ⟨ad146, e146, hx146_0, hx146_1, hx146_2, hx146_3, hx146_4, hx146_5, hx146_6, hx146_7⟩ := at_T34 HR0.out x8_3 p146 q146
                                                  cases e146
                                                  replace hx146_0 := (HB.out.cell (World.block_lt_of_cell? w _ hx146_0)).trans hx146_0
                                                  replace hx146_1 := (HB.out.cell (World.block_lt_of_cell? w _ hx146_1)).trans hx146_1
                                                  replace hx146_2 := (HB.out.cell (World.block_lt_of_cell? w _ hx146_2)).trans hx146_2
                                                  replace hx146_3 := (HB.out.cell (World.block_lt_of_cell? w _ hx146_3)).trans hx146_3
                                                  replace hx146_4 := (HB.out.cell (World.block_lt_of_cell? w _ hx146_4)).trans hx146_4
                                                  replace hx146_5 := (HB.out.cell (World.block_lt_of_cell? w _ hx146_5)).trans hx146_5
                                                  replace hx146_6 := (HB.out.cell (World.block_lt_of_cell? w _ hx146_6)).trans hx146_6
                                                  replace hx146_7 := (HB.out.cell (World.block_lt_of_cell? w _ hx146_7)).trans hx146_7
                                                  replace p146 := eq_true p146
                                                  replace q146 := eq_true q146
                                                  have p147 : 0 ≤ ((rd l1 x8_3) : Int) := of_decide_eq_true (by first | (with_reducible assumption) | assumption)
                                                  have q147 : (rd l1 x8_3) < (l0.length : Int) := of_decide_eq_true (by first | (with_reducible assumption) | assumption)
                                                  obtain ⟨ad147, e147, hx147_0, hx147_1, hx147_2, hx147_3, hx147_4, hx147_5, hx147_6, hx147_7⟩ := at_T34 HR0.out (rd l1 x8_3) p147 q147
                                                  obtain rfl : ad146 = ad147 := (by injection e147)
                                                  replace hx147_0 := (HB.out.cell (World.block_lt_of_cell? w _ hx147_0)).trans hx147_0
                                                  replace hx147_1 := (HB.out.cell (World.block_lt_of_cell? w _ hx147_1)).trans hx147_1
                                                  replace hx147_2 := (HB.out.cell (World.block_lt_of_cell? w _ hx147_2)).trans hx147_2
                                                  replace hx147_3 := (HB.out.cell (World.block_lt_of_cell? w _ hx147_3)).trans hx147_3
                                                  replace hx147_4 := (HB.out.cell (World.block_lt_of_cell? w _ hx147_4)).trans hx147_4
                                                  replace hx147_5 := (HB.out.cell (World.block_lt_of_cell? w _ hx147_5)).trans hx147_5
                                                  replace hx147_6 := (HB.out.cell (World.block_lt_of_cell? w _ hx147_6)).trans hx147_6
                                                  replace hx147_7 := (HB.out.cell (World.block_lt_of_cell? w _ hx147_7)).trans hx147_7
                                                  replace p147 := eq_true p147
                                                  replace q147 := eq_true q147
                                                  have p150 : 0 ≤ (x8_3 : Int) := of_decide_eq_true (by first | (with_reducible assumption) | assumption)
                                                  have q150 : x8_3 < (l2.length : Int) := of_decide_eq_true (by first | (with_reducible assumption) | assumption)
                                                  obtain ⟨ad150, e150, hx150_0⟩ := Kd.at_int HR2.out x8_3 p150 q150
                                                  cases e150
                                                  replace hx150_0 := (HB.out.cell (World.block_lt_of_cell? w _ hx150_0)).trans hx150_0
                                                  replace p150 := eq_true p150
                                                  replace q150 := eq_true q150
                                                  have p151 : 0 ≤ ((rd l1 x8_3) : Int) := of_decide_eq_true (by first | (with_reducible assumption) | assumption)
                                                  have q151 : (rd l1 x8_3) < (l2.length : Int) := of_decide_eq_true (by first | (with_reducible assumption) | assumption)
                                                  obtain ⟨ad151, e151, hx151_0⟩ := Kd.at_int HR2.out (rd l1 x8_3) p151 q151
                                                  obtain rfl : ad150 = ad151 := (by injection e151)
                                                  replace hx151_0 := (HB.out.cell (World.block_lt_of_cell? w _ hx151_0)).trans hx151_0
                                                  replace p151 := eq_true p151
                                                  replace q151 := eq_true q151
                                                  have p152 : 0 ≤ (x8_3 : Int) := of_decide_eq_true (by first | (with_reducible assumption) | assumption)
                                                  have q152 : x8_3 < (l2.length : Int) := of_decide_eq_true (by first | (with_reducible assumption) | assumption)
                                                  obtain ⟨ad152, e152, hx152_0⟩ := Kd.at_int HR2.out x8_3 p152 q152
                                                  obtain rfl : ad150 = ad152 := (by injection e152)
                                                  replace hx152_0 := (HB.out.cell (World.block_lt_of_cell? w _ hx152_0)).trans hx152_0
                                                  replace p152 := eq_true p152
                                                  replace q152 := eq_true q152
                                                  have p153 : 0 ≤ (x8_3 : Int) := of_decide_eq_true (by first | (with_reducible assumption) | assumption)
                                                  have q153 : x8_3 < (l0.length : Int) := of_decide_eq_true (by first | (with_reducible assumption) | assumption)
                                                  obtain ⟨ad153, e153, hx153_0, hx153_1, hx153_2, hx153_3, hx153_4, hx153_5, hx153_6, hx153_7⟩ := at_T34 HR0.out x8_3 p153 q153
                                                  obtain rfl : ad146 = ad153 := (by injection e153)
                                                  replace hx153_0 := (HB.out.cell (World.block_lt_of_cell? w _ hx153_0)).trans hx153_0
                                                  replace hx153_1 := (HB.out.cell (World.block_lt_of_cell? w _ hx153_1)).trans hx153_1
                                                  replace hx153_2 := (HB.out.cell (World.block_lt_of_cell? w _ hx153_2)).trans hx153_2
                                                  replace hx153_3 := (HB.out.cell (World.block_lt_of_cell? w _ hx153_3)).trans hx153_3
                                                  replace hx153_4 := (HB.out.cell (World.block_lt_of_cell? w _ hx153_4)).trans hx153_4
                                                  replace hx153_5 := (HB.out.cell (World.block_lt_of_cell? w _ hx153_5)).trans hx153_5
                                                  replace hx153_6 := (HB.out.cell (World.block_lt_of_cell? w _ hx153_6)).trans hx153_6
                                                  replace hx153_7 := (HB.out.cell (World.block_lt_of_cell? w _ hx153_7)).trans hx153_7
                                                  replace p153 := eq_true p153
                                                  replace q153 := eq_true q153
                                                  have p154 : 0 ≤ ((rd l1 x8_3) : Int) := of_decide_eq_true (by first | (with_reducible assumption) | assumption)
                                                  have q154 : (rd l1 x8_3) < (l2.length : Int) := of_decide_eq_true (by first | (with_reducible assumption) | assumption)
                                                  obtain ⟨ad154, e154, hx154_0⟩ := Kd.at_int HR2.out (rd l1 x8_3) p154 q154
                                                  obtain rfl : ad150 = ad154 := (by injection e154)
                                                  replace hx154_0 := (HB.out.cell (World.block_lt_of_cell? w _ hx154_0)).trans hx154_0
                                                  replace p154 := eq_true p154
                                                  replace q154 := eq_true q154
                                                  have p155 : 0 ≤ ((rd l1 x8_3) : Int) := of_decide_eq_true (by first | (with_reducible assumption) | assumption)
                                                  have q155 : (rd l1 x8_3) < (l0.length : Int) := of_decide_eq_true (by first | (with_reducible assumption) | assumption)
                                                  obtain ⟨ad155, e155, hx155_0, hx155_1, hx155_2, hx155_3, hx155_4, hx155_5, hx155_6, hx155_7⟩ := at_T34 HR0.out (rd l1 x8_3) p155 q155
                                                  obtain rfl : ad146 = ad155 := (by injection e155)
                                                  replace hx155_0 := (HB.out.cell (World.block_lt_of_cell? w _ hx155_0)).trans hx155_0
                                                  replace hx155_1 := (HB.out.cell (World.block_lt_of_cell? w _ hx155_1)).trans hx155_1
                                                  replace hx155_2 := (HB.out.cell (World.block_lt_of_cell? w _ hx155_2)).trans hx155_2
                                                  replace hx155_3 := (HB.out.cell (World.block_lt_of_cell? w _ hx155_3)).trans hx155_3
                                                  replace hx155_4 := (HB.out.cell (World.block_lt_of_cell? w _ hx155_4)).trans hx155_4
                                                  replace hx155_5 := (HB.out.cell (World.block_lt_of_cell? w _ hx155_5)).trans hx155_5
                                                  replace hx155_6 := (HB.out.cell (World.block_lt_of_cell? w _ hx155_6)).trans hx155_6
                                                  replace hx155_7 := (HB.out.cell (World.block_lt_of_cell? w _ hx155_7)).trans hx155_7
                                                  replace p155 := eq_true p155
                                                  replace q155 := eq_true q155
                                                  go_wp2
                                                  repeat (go_quiet (fail); try go_wp2)
                                                  go_roundg kj16
                                                  case measure => have := HJ3.out; have := HK2.out; have := HK3.out; have := HJ16.out; omega
                                                  case rel => exact ⟨(wrap64 (x8_3 + 1)), (by first | rfl | (simp; done) | (simp [*]; done)), H', ⟨by have := HJ3.out; have := HK2.out; have := HK3.out; have := HJ16.out; omega⟩, ⟨by repeat (first | (with_reducible first | exact HB.out | apply below_alloc | apply pw_below_drewN | apply below_drew1) | exact HB.out)⟩⟩
                                            · rw [if_neg c31] at H
                                              exact absurd H (by simp)
                                          · rw [if_neg c30] at H
                                            exact absurd H (by simp)
                                      · rw [if_neg c25] at H
                                        exact absurd H (by simp)
                                    · rw [if_neg c24] at H
                                      exact absurd H (by simp)
                                  · rw [if_neg c23] at H
                                    exact absurd H (by simp)
                                · rw [if_neg c22] at H
                                  exact absurd H (by simp)
                      · rw [if_neg c16] at H
                        exact absurd H (by simp)
                    · rw [if_neg c15] at H
                      exact absurd H (by simp)
                  · rw [if_neg c14] at H
                    have c14b0 : decide (x8_3 < (l0.length : Int)) = false := decide_eq_false c14
                    clear c14
                    obtain rfl := Option.some.inj H
                    go_wp2
                    repeat (go_quiet (fail); try go_wp2)
                    go_ret
                    exact ⟨by first | rfl | (simp [errW_none, errW_some] <;> rfl) | (simp [*, errW_none, errW_some] <;> rfl), by repeat (first | (with_reducible first | exact HB.out | apply below_alloc | apply pw_below_drewN | apply below_drew1) | exact HB.out)⟩

end Go.Proofs.Ythlekphkibeflaa.D
