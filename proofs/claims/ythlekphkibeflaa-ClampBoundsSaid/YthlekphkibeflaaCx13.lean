-- WRITTEN FOR THIS CLAIM by wip/tools/mp.py, a program of this project that drives the kit's print; the functions that the print does not take are this project's own texts.
import Derived.Test.YthlekphkibeflaaCx0
import Derived.Test.YthlekphkibeflaaCx1
import Derived.Test.YthlekphkibeflaaCx3
import Derived.Test.YthlekphkibeflaaCx4
import Derived.Test.YthlekphkibeflaaCx6
import Derived.Test.YthlekphkibeflaaCx8
namespace Go.Proofs.Ythlekphkibeflaa.C
open Go.RowKit Go.Proofs.YthlekphkibeflaaW.PrintWords Go.Proofs.YthlekphkibeflaaW.PrintLast Go.Proofs.YthlekphkibeflaaW.PrintMore
attribute [local go_sem] max2_int min2_int max_two min_two max_three min_three max_four min_four   -- for this text's walks alone
set_option linter.unusedVariables false
set_option linter.unusedSimpArgs false

/-! ### merkhetlaw19_ClampBounds: function 6 -/
mutual
def merkhetlaw19_ClampBounds.j0 : Nat → List (S34) → Bool → Option (Bool)
  | 0, _, _ => none
  | k + 1, x0, x24 => if x24 = true then ((merkhetlaw19_fixed.f k).bind fun t237 => (some t237)) else ((merkhetref10_Of.f k x0).bind fun t238 => ((clamp_Starts.f k x0 t238).bind fun bt241 => (if bt241.2 = true then (merkhetlaw19_ClampBounds.j1 k x0 bt241.1 ((bt241.1.length : Int) != (x0.length : Int))) else (merkhetlaw19_ClampBounds.j1 k x0 bt241.1 true))))
def merkhetlaw19_ClampBounds.j1 : Nat → List (S34) → List Int → Bool → Option (Bool)
  | 0, _, _, _ => none
  | k + 1, x0, x3, x41 => if x41 = true then (some false) else (merkhetlaw19_ClampBounds.l0 k x0 x3 1 x0 (x0.length : Int) 0)
def merkhetlaw19_ClampBounds.l0 : Nat → List (S34) → List Int → Int → List (S34) → Int → Int → Option (Bool)
  | 0, _, _, _, _, _, _ => none
  | k + 1, x0, x3, x5, x42, x43, x44 => if x44 < x43 then (if 0 ≤ x44 then (if x44 < (x42.length : Int) then (merkhetlaw19_ClampBounds.l0 k x0 x3 (wrap64 (x5 + ((rd_T34 x42 x44).f7))) x42 x43 (wrap64 (x44 + 1))) else (none)) else (none)) else (merkhetlaw19_ClampBounds.l1 k x3 x5 0 x0 (x0.length : Int) 0)
def merkhetlaw19_ClampBounds.l1 : Nat → List Int → Int → Int → List (S34) → Int → Int → Option (Bool)
  | 0, _, _, _, _, _, _ => none
  | k + 1, x3, x5, x8, x53, x54, x55 => if x55 < x54 then (if 0 ≤ x55 then (if x55 < (x53.length : Int) then (merkhetlaw19_ClampBounds.l1 k x3 x5 (mx x8 ((rd_T34 x53 x55).f6)) x53 x54 (wrap64 (x55 + 1))) else (none)) else (none)) else (merkhetlaw19_ClampBounds.l2 k x5 x8 x3 (x3.length : Int) 0)
def merkhetlaw19_ClampBounds.l2 : Nat → Int → Int → List Int → Int → Int → Option (Bool)
  | 0, _, _, _, _, _ => none
  | k + 1, x5, x8, x64, x65, x66 => if x66 < x65 then (if 0 ≤ x66 then (if x66 < (x64.length : Int) then (if (rd x64 x66) < 0 then (some false) else (if (rd x64 x66) ≥ (wrap64 (x8 + x5)) then (some false) else (merkhetlaw19_ClampBounds.l2 k x5 x8 x64 x65 (wrap64 (x66 + 1))))) else (none)) else (none)) else ((merkhetlaw19_fixed.f k).bind fun t250 => (some t250))
end
def merkhetlaw19_ClampBounds.f (k : Nat) (l0 : List (S34)) : Option (Bool) := (merkhetlaw04_Great.f k l0).bind fun t235 => (if t235 = true then (merkhetlaw19_ClampBounds.j0 k l0 true) else ((merkhetref18_May.f k l0).bind fun t236 => (if t236 = true then (merkhetlaw19_ClampBounds.j0 k l0 ((l0.length : Int) == 0)) else (merkhetlaw19_ClampBounds.j0 k l0 true))))
theorem merkhetlaw19_ClampBounds.mono_l : ∀ k, (∀ y0 y1, LeO (merkhetlaw19_ClampBounds.j0 k y0 y1) (merkhetlaw19_ClampBounds.j0 (k + 1) y0 y1)) ∧ (∀ y0 y1 y2, LeO (merkhetlaw19_ClampBounds.j1 k y0 y1 y2) (merkhetlaw19_ClampBounds.j1 (k + 1) y0 y1 y2)) ∧ (∀ y0 y1 y2 y3 y4 y5, LeO (merkhetlaw19_ClampBounds.l0 k y0 y1 y2 y3 y4 y5) (merkhetlaw19_ClampBounds.l0 (k + 1) y0 y1 y2 y3 y4 y5)) ∧ (∀ y0 y1 y2 y3 y4 y5, LeO (merkhetlaw19_ClampBounds.l1 k y0 y1 y2 y3 y4 y5) (merkhetlaw19_ClampBounds.l1 (k + 1) y0 y1 y2 y3 y4 y5)) ∧ (∀ y0 y1 y2 y3 y4, LeO (merkhetlaw19_ClampBounds.l2 k y0 y1 y2 y3 y4) (merkhetlaw19_ClampBounds.l2 (k + 1) y0 y1 y2 y3 y4))
  | 0 => ⟨fun _ _ r h => by simp [merkhetlaw19_ClampBounds.j0] at h, fun _ _ _ r h => by simp [merkhetlaw19_ClampBounds.j1] at h, fun _ _ _ _ _ _ r h => by simp [merkhetlaw19_ClampBounds.l0] at h, fun _ _ _ _ _ _ r h => by simp [merkhetlaw19_ClampBounds.l1] at h, fun _ _ _ _ _ r h => by simp [merkhetlaw19_ClampBounds.l2] at h⟩
  | k + 1 => by
    obtain ⟨ih0, ih1, ih2, ih3, ih4⟩ := merkhetlaw19_ClampBounds.mono_l k
    refine ⟨?_, ?_, ?_, ?_, ?_⟩
    · intro y0 y1
      unfold merkhetlaw19_ClampBounds.j0
      repeat' first
      | (with_reducible exact ih0 _ _)
      | (with_reducible exact ih1 _ _ _)
      | (with_reducible exact ih2 _ _ _ _ _ _)
      | (with_reducible exact ih3 _ _ _ _ _ _)
      | (with_reducible exact ih4 _ _ _ _ _)
      | (with_reducible exact clamp_Starts.mono _ _ _)
      | (with_reducible exact merkhetlaw04_Great.mono _ _)
      | (with_reducible exact merkhetlaw19_fixed.mono _)
      | (with_reducible exact merkhetref10_Of.mono _ _)
      | (with_reducible exact merkhetref18_May.mono _ _)
      | (with_reducible exact LeO.refl _)
      | (with_reducible exact LeO.none _)
      | (with_reducible refine LeO.ite ?_ ?_)
      | (with_reducible refine LeO.bind ?_ (fun _ => ?_))
      | exact ih0 _ _
      | exact ih1 _ _ _
      | exact ih2 _ _ _ _ _ _
      | exact ih3 _ _ _ _ _ _
      | exact ih4 _ _ _ _ _
      | exact clamp_Starts.mono _ _ _
      | exact merkhetlaw04_Great.mono _ _
      | exact merkhetlaw19_fixed.mono _
      | exact merkhetref10_Of.mono _ _
      | exact merkhetref18_May.mono _ _
      | exact LeO.none _
      | refine LeO.ite ?_ ?_
      | refine LeO.bind ?_ (fun _ => ?_)
    · intro y0 y1 y2
      unfold merkhetlaw19_ClampBounds.j1
      repeat' first
      | (with_reducible exact ih0 _ _)
      | (with_reducible exact ih1 _ _ _)
      | (with_reducible exact ih2 _ _ _ _ _ _)
      | (with_reducible exact ih3 _ _ _ _ _ _)
      | (with_reducible exact ih4 _ _ _ _ _)
      | (with_reducible exact clamp_Starts.mono _ _ _)
      | (with_reducible exact merkhetlaw04_Great.mono _ _)
      | (with_reducible exact merkhetlaw19_fixed.mono _)
      | (with_reducible exact merkhetref10_Of.mono _ _)
      | (with_reducible exact merkhetref18_May.mono _ _)
      | (with_reducible exact LeO.refl _)
      | (with_reducible exact LeO.none _)
      | (with_reducible refine LeO.ite ?_ ?_)
      | (with_reducible refine LeO.bind ?_ (fun _ => ?_))
      | exact ih0 _ _
      | exact ih1 _ _ _
      | exact ih2 _ _ _ _ _ _
      | exact ih3 _ _ _ _ _ _
      | exact ih4 _ _ _ _ _
      | exact clamp_Starts.mono _ _ _
      | exact merkhetlaw04_Great.mono _ _
      | exact merkhetlaw19_fixed.mono _
      | exact merkhetref10_Of.mono _ _
      | exact merkhetref18_May.mono _ _
      | exact LeO.none _
      | refine LeO.ite ?_ ?_
      | refine LeO.bind ?_ (fun _ => ?_)
    · intro y0 y1 y2 y3 y4 y5
      unfold merkhetlaw19_ClampBounds.l0
      repeat' first
      | (with_reducible exact ih0 _ _)
      | (with_reducible exact ih1 _ _ _)
      | (with_reducible exact ih2 _ _ _ _ _ _)
      | (with_reducible exact ih3 _ _ _ _ _ _)
      | (with_reducible exact ih4 _ _ _ _ _)
      | (with_reducible exact clamp_Starts.mono _ _ _)
      | (with_reducible exact merkhetlaw04_Great.mono _ _)
      | (with_reducible exact merkhetlaw19_fixed.mono _)
      | (with_reducible exact merkhetref10_Of.mono _ _)
      | (with_reducible exact merkhetref18_May.mono _ _)
      | (with_reducible exact LeO.refl _)
      | (with_reducible exact LeO.none _)
      | (with_reducible refine LeO.ite ?_ ?_)
      | (with_reducible refine LeO.bind ?_ (fun _ => ?_))
      | exact ih0 _ _
      | exact ih1 _ _ _
      | exact ih2 _ _ _ _ _ _
      | exact ih3 _ _ _ _ _ _
      | exact ih4 _ _ _ _ _
      | exact clamp_Starts.mono _ _ _
      | exact merkhetlaw04_Great.mono _ _
      | exact merkhetlaw19_fixed.mono _
      | exact merkhetref10_Of.mono _ _
      | exact merkhetref18_May.mono _ _
      | exact LeO.none _
      | refine LeO.ite ?_ ?_
      | refine LeO.bind ?_ (fun _ => ?_)
    · intro y0 y1 y2 y3 y4 y5
      unfold merkhetlaw19_ClampBounds.l1
      repeat' first
      | (with_reducible exact ih0 _ _)
      | (with_reducible exact ih1 _ _ _)
      | (with_reducible exact ih2 _ _ _ _ _ _)
      | (with_reducible exact ih3 _ _ _ _ _ _)
      | (with_reducible exact ih4 _ _ _ _ _)
      | (with_reducible exact clamp_Starts.mono _ _ _)
      | (with_reducible exact merkhetlaw04_Great.mono _ _)
      | (with_reducible exact merkhetlaw19_fixed.mono _)
      | (with_reducible exact merkhetref10_Of.mono _ _)
      | (with_reducible exact merkhetref18_May.mono _ _)
      | (with_reducible exact LeO.refl _)
      | (with_reducible exact LeO.none _)
      | (with_reducible refine LeO.ite ?_ ?_)
      | (with_reducible refine LeO.bind ?_ (fun _ => ?_))
      | exact ih0 _ _
      | exact ih1 _ _ _
      | exact ih2 _ _ _ _ _ _
      | exact ih3 _ _ _ _ _ _
      | exact ih4 _ _ _ _ _
      | exact clamp_Starts.mono _ _ _
      | exact merkhetlaw04_Great.mono _ _
      | exact merkhetlaw19_fixed.mono _
      | exact merkhetref10_Of.mono _ _
      | exact merkhetref18_May.mono _ _
      | exact LeO.none _
      | refine LeO.ite ?_ ?_
      | refine LeO.bind ?_ (fun _ => ?_)
    · intro y0 y1 y2 y3 y4
      unfold merkhetlaw19_ClampBounds.l2
      repeat' first
      | (with_reducible exact ih0 _ _)
      | (with_reducible exact ih1 _ _ _)
      | (with_reducible exact ih2 _ _ _ _ _ _)
      | (with_reducible exact ih3 _ _ _ _ _ _)
      | (with_reducible exact ih4 _ _ _ _ _)
      | (with_reducible exact clamp_Starts.mono _ _ _)
      | (with_reducible exact merkhetlaw04_Great.mono _ _)
      | (with_reducible exact merkhetlaw19_fixed.mono _)
      | (with_reducible exact merkhetref10_Of.mono _ _)
      | (with_reducible exact merkhetref18_May.mono _ _)
      | (with_reducible exact LeO.refl _)
      | (with_reducible exact LeO.none _)
      | (with_reducible refine LeO.ite ?_ ?_)
      | (with_reducible refine LeO.bind ?_ (fun _ => ?_))
      | exact ih0 _ _
      | exact ih1 _ _ _
      | exact ih2 _ _ _ _ _ _
      | exact ih3 _ _ _ _ _ _
      | exact ih4 _ _ _ _ _
      | exact clamp_Starts.mono _ _ _
      | exact merkhetlaw04_Great.mono _ _
      | exact merkhetlaw19_fixed.mono _
      | exact merkhetref10_Of.mono _ _
      | exact merkhetref18_May.mono _ _
      | exact LeO.none _
      | refine LeO.ite ?_ ?_
      | refine LeO.bind ?_ (fun _ => ?_)
theorem merkhetlaw19_ClampBounds.mono : ∀ a0 k, LeO (merkhetlaw19_ClampBounds.f k a0) (merkhetlaw19_ClampBounds.f (k + 1) a0) := by
  intro a0 k
  obtain ⟨ih0, ih1, ih2, ih3, ih4⟩ := merkhetlaw19_ClampBounds.mono_l k
  unfold merkhetlaw19_ClampBounds.f
  repeat' first
      | (with_reducible exact ih0 _ _)
      | (with_reducible exact ih1 _ _ _)
      | (with_reducible exact ih2 _ _ _ _ _ _)
      | (with_reducible exact ih3 _ _ _ _ _ _)
      | (with_reducible exact ih4 _ _ _ _ _)
      | (with_reducible exact clamp_Starts.mono _ _ _)
      | (with_reducible exact merkhetlaw04_Great.mono _ _)
      | (with_reducible exact merkhetlaw19_fixed.mono _)
      | (with_reducible exact merkhetref10_Of.mono _ _)
      | (with_reducible exact merkhetref18_May.mono _ _)
      | (with_reducible exact LeO.refl _)
      | (with_reducible exact LeO.none _)
      | (with_reducible refine LeO.ite ?_ ?_)
      | (with_reducible refine LeO.bind ?_ (fun _ => ?_))
      | exact ih0 _ _
      | exact ih1 _ _ _
      | exact ih2 _ _ _ _ _ _
      | exact ih3 _ _ _ _ _ _
      | exact ih4 _ _ _ _ _
      | exact clamp_Starts.mono _ _ _
      | exact merkhetlaw04_Great.mono _ _
      | exact merkhetlaw19_fixed.mono _
      | exact merkhetref10_Of.mono _ _
      | exact merkhetref18_May.mono _ _
      | exact LeO.none _
      | refine LeO.ite ?_ ?_
      | refine LeO.bind ?_ (fun _ => ?_)
set_option maxHeartbeats 8000000 in
set_option maxRecDepth 100000 in
theorem merkhetlaw19_ClampBounds.calls (k : Nat) (A0 : Option Addr) (c0 : Nat) (l0 : List (S34)) (r : Bool) (w : World) (hr0 : Kd.C k34 w A0 l0.length l0) (hc0 : l0.length ≤ c0) (h : merkhetlaw19_ClampBounds.f k l0 = some r) :
    Calls Try.prog 6 #[.slice A0 l0.length c0] w fun e w' => e = .returned (.bool r) ∧ Below w.heap.size w w' := by
  have hu34 := Try.underlying34
  have HR0 := Aside0.mk hr0
  have HC0 := Aside0.mk hc0
  clear hr0 hc0
  have HB := Aside0.mk (Below.refl w.heap.size w)
  have H : ((merkhetlaw04_Great.f k l0).bind fun t235 => (if t235 = true then (merkhetlaw19_ClampBounds.j0 k l0 true) else ((merkhetref18_May.f k l0).bind fun t236 => (if t236 = true then (merkhetlaw19_ClampBounds.j0 k l0 ((l0.length : Int) == 0)) else (merkhetlaw19_ClampBounds.j0 k l0 true))))) = some r := h
  clear h
  have HC2 := Aside0.mk H
  clear H
  go_enter Try.func6, Try.ntmps6
  go_upto_region 1 with (fail)
  go_cut [24] (fun v24 wc => ∃ (kq : Nat) (x24_1 : Bool), v24 = .bool x24_1 ∧ Aside0 (merkhetlaw19_ClampBounds.j0 kq l0 x24_1 = some r) ∧ Aside0 (kq ≤ k) ∧ Aside0 (Below w.heap.size w wc))
  case first =>
    have H := HC2.out
    clear HC2
    replace H := Option.bind_eq_some_iff.mp H
    obtain ⟨t235, A30, H⟩ := H
    replace H : (if t235 = true then (merkhetlaw19_ClampBounds.j0 k l0 true) else ((merkhetref18_May.f k l0).bind fun t236 => (if t236 = true then (merkhetlaw19_ClampBounds.j0 k l0 ((l0.length : Int) == 0)) else (merkhetlaw19_ClampBounds.j0 k l0 true)))) = some r := H
    have A3 := Aside0.mk A30
    clear A30
    by_cases c4 : t235 = true
    · subst c4
      have H1 : (merkhetlaw19_ClampBounds.j0 k l0 true) = some r := by rw [if_pos rfl] at H; exact H
      clear H
      have H := H1
      clear H1
      have H' := Aside0.mk H
      clear H
      go_wp2_with (first | ((with_reducible refine gate_callee (f := 8) rfl ?_); refine goesL_ (some 14) rfl rfl Try.func8 (by kernel_rfl) rfl #[.slice A0 l0.length c0] rfl (by (try simp only [List.map_toArray, List.map_cons, List.map_nil]); first | done | rfl | (simp only [List.length_drop, List.length_take]; rfl)) ?_; (with_reducible refine (merkhetlaw04_Great.calls k _ _ l0 true _ ?side1 ?side2 A3.out).mono ?_); (case side1 => repeat (first | exact (Kd.C_below HR0.out HB.out) | (with_reducible refine Kd.C_alloc ?_ _) | (with_reducible refine Kd.C_drewN ?_ _) | (with_reducible refine Kd.C_drew ?_))); (case side2 => exact HC0.out); rintro e w5 ⟨rfl, hb⟩; refine ⟨_, rfl, ?_⟩; have n0_ := Aside0.mk (below_step (by repeat (first | (with_reducible first | exact HB.out | apply below_alloc | apply pw_below_drewN | apply below_drew1) | exact HB.out)) hb); clear HB; have HB := n0_; clear n0_; (try clear hb); (try clear hb2); (try clear hk); (try clear hi)))
      go_meet
      case rel => exact ⟨_, (true), (by first | rfl | (simp; done) | (simp [*]; done)), H', ⟨by first | omega | exact Nat.le_refl _⟩, ⟨by repeat (first | (with_reducible first | exact HB.out | apply below_alloc | apply pw_below_drewN | apply below_drew1) | exact HB.out)⟩⟩
    · replace c4 := Bool.eq_false_iff.mpr c4
      subst c4
      have H1 : ((merkhetref18_May.f k l0).bind fun t236 => (if t236 = true then (merkhetlaw19_ClampBounds.j0 k l0 ((l0.length : Int) == 0)) else (merkhetlaw19_ClampBounds.j0 k l0 true))) = some r := by rw [if_neg (show ¬ (false = true) by decide)] at H; exact H
      clear H
      have H := H1
      clear H1
      replace H := Option.bind_eq_some_iff.mp H
      obtain ⟨t236, A60, H⟩ := H
      replace H : (if t236 = true then (merkhetlaw19_ClampBounds.j0 k l0 ((l0.length : Int) == 0)) else (merkhetlaw19_ClampBounds.j0 k l0 true)) = some r := H
      have A6 := Aside0.mk A60
      clear A60
      by_cases c7 : t236 = true
      · subst c7
        have H1 : (merkhetlaw19_ClampBounds.j0 k l0 ((l0.length : Int) == 0)) = some r := by rw [if_pos rfl] at H; exact H
        clear H
        have H := H1
        clear H1
        have H' := Aside0.mk H
        clear H
        go_wp2_with (first | ((with_reducible refine gate_callee (f := 8) rfl ?_); refine goesL_ (some 14) rfl rfl Try.func8 (by kernel_rfl) rfl #[.slice A0 l0.length c0] rfl (by (try simp only [List.map_toArray, List.map_cons, List.map_nil]); first | done | rfl | (simp only [List.length_drop, List.length_take]; rfl)) ?_; (with_reducible refine (merkhetlaw04_Great.calls k _ _ l0 false _ ?side1 ?side2 A3.out).mono ?_); (case side1 => repeat (first | exact (Kd.C_below HR0.out HB.out) | (with_reducible refine Kd.C_alloc ?_ _) | (with_reducible refine Kd.C_drewN ?_ _) | (with_reducible refine Kd.C_drew ?_))); (case side2 => exact HC0.out); rintro e w8 ⟨rfl, hb⟩; refine ⟨_, rfl, ?_⟩; have n0_ := Aside0.mk (below_step (by repeat (first | (with_reducible first | exact HB.out | apply below_alloc | apply pw_below_drewN | apply below_drew1) | exact HB.out)) hb); clear HB; have HB := n0_; clear n0_; (try clear hb); (try clear hb2); (try clear hk); (try clear hi)) | (go_at_call 14; (with_reducible refine (merkhetref18_May.calls k _ _ l0 true _ ?side1 ?side2 A6.out).mono ?_); (case side1 => repeat (first | exact (Kd.C_below HR0.out HB.out) | (with_reducible refine Kd.C_alloc ?_ _) | (with_reducible refine Kd.C_drewN ?_ _) | (with_reducible refine Kd.C_drew ?_))); (case side2 => exact HC0.out); rintro e w9 ⟨rfl, hb⟩; have n0_ := Aside0.mk (below_step (by repeat (first | (with_reducible first | exact HB.out | apply below_alloc | apply pw_below_drewN | apply below_drew1) | exact HB.out)) hb); clear HB; have HB := n0_; clear n0_; (try clear hb); (try clear hb2); (try clear hk); (try clear hi)))
        go_meet
        case rel => exact ⟨_, (((l0.length : Int) == 0)), (by first | rfl | (simp; done) | (simp [*]; done)), H', ⟨by first | omega | exact Nat.le_refl _⟩, ⟨by repeat (first | (with_reducible first | exact HB.out | apply below_alloc | apply pw_below_drewN | apply below_drew1) | exact HB.out)⟩⟩
      · replace c7 := Bool.eq_false_iff.mpr c7
        subst c7
        have H1 : (merkhetlaw19_ClampBounds.j0 k l0 true) = some r := by rw [if_neg (show ¬ (false = true) by decide)] at H; exact H
        clear H
        have H := H1
        clear H1
        have H' := Aside0.mk H
        clear H
        go_wp2_with (first | ((with_reducible refine gate_callee (f := 8) rfl ?_); refine goesL_ (some 14) rfl rfl Try.func8 (by kernel_rfl) rfl #[.slice A0 l0.length c0] rfl (by (try simp only [List.map_toArray, List.map_cons, List.map_nil]); first | done | rfl | (simp only [List.length_drop, List.length_take]; rfl)) ?_; (with_reducible refine (merkhetlaw04_Great.calls k _ _ l0 false _ ?side1 ?side2 A3.out).mono ?_); (case side1 => repeat (first | exact (Kd.C_below HR0.out HB.out) | (with_reducible refine Kd.C_alloc ?_ _) | (with_reducible refine Kd.C_drewN ?_ _) | (with_reducible refine Kd.C_drew ?_))); (case side2 => exact HC0.out); rintro e w10 ⟨rfl, hb⟩; refine ⟨_, rfl, ?_⟩; have n0_ := Aside0.mk (below_step (by repeat (first | (with_reducible first | exact HB.out | apply below_alloc | apply pw_below_drewN | apply below_drew1) | exact HB.out)) hb); clear HB; have HB := n0_; clear n0_; (try clear hb); (try clear hb2); (try clear hk); (try clear hi)) | (go_at_call 14; (with_reducible refine (merkhetref18_May.calls k _ _ l0 false _ ?side1 ?side2 A6.out).mono ?_); (case side1 => repeat (first | exact (Kd.C_below HR0.out HB.out) | (with_reducible refine Kd.C_alloc ?_ _) | (with_reducible refine Kd.C_drewN ?_ _) | (with_reducible refine Kd.C_drew ?_))); (case side2 => exact HC0.out); rintro e w11 ⟨rfl, hb⟩; have n0_ := Aside0.mk (below_step (by repeat (first | (with_reducible first | exact HB.out | apply below_alloc | apply pw_below_drewN | apply below_drew1) | exact HB.out)) hb); clear HB; have HB := n0_; clear n0_; (try clear hb); (try clear hb2); (try clear hk); (try clear hi)))
        go_meet
        case rel => exact ⟨_, (true), (by first | rfl | (simp; done) | (simp [*]; done)), H', ⟨by first | omega | exact Nat.le_refl _⟩, ⟨by repeat (first | (with_reducible first | exact HB.out | apply below_alloc | apply pw_below_drewN | apply below_drew1) | exact HB.out)⟩⟩
  case rest =>
    clear HC2
    try clear p2
    try clear c4
    try clear c6
    try clear c7
    try clear c8
    obtain ⟨kq, x24_1, rfl, HA, HJ1, HB⟩ := hcut
    cases kq with
    | zero => exact absurd HA.out (by simp [merkhetlaw19_ClampBounds.j0])
    | succ kj1 =>
      have H := HA.out
      clear HA
      simp only [merkhetlaw19_ClampBounds.j0] at H
      by_cases c12 : x24_1 = true
      · subst c12
        have H1 : ((merkhetlaw19_fixed.f kj1).bind fun t237 => (some t237)) = some r := by rw [if_pos rfl] at H; exact H
        clear H
        have H := H1
        clear H1
        replace H := Option.bind_eq_some_iff.mp H
        obtain ⟨t237, A130, H⟩ := H
        replace H : (some t237) = some r := H
        have A13 := Aside0.mk A130
        clear A130
        obtain rfl := Option.some.inj H
        go_wp2_with (first | ((with_reducible refine gate_callee (f := 9) rfl ?_); refine goesL_ (some 25) rfl rfl Try.func9 (by kernel_rfl) rfl #[] rfl (by (try simp only [List.map_toArray, List.map_cons, List.map_nil]); first | done | rfl | (simp only [List.length_drop, List.length_take]; rfl)) ?_; (with_reducible refine (merkhetlaw19_fixed.calls kj1  t237 _ A13.out).mono ?_); rintro e w14 ⟨rfl, hb⟩; refine ⟨_, rfl, ?_⟩; have n0_ := Aside0.mk (below_step (by repeat (first | (with_reducible first | exact HB.out | apply below_alloc | apply pw_below_drewN | apply below_drew1) | exact HB.out)) hb); clear HB; have HB := n0_; clear n0_; (try clear hb); (try clear hb2); (try clear hk); (try clear hi)))
        go_ret
        exact ⟨by first | rfl | (simp [errW_none, errW_some] <;> rfl) | (simp [*, errW_none, errW_some] <;> rfl), by repeat (first | (with_reducible first | exact HB.out | apply below_alloc | apply pw_below_drewN | apply below_drew1) | exact HB.out)⟩
      · replace c12 := Bool.eq_false_iff.mpr c12
        subst c12
        have H1 : ((merkhetref10_Of.f kj1 l0).bind fun t238 => ((clamp_Starts.f kj1 l0 t238).bind fun bt241 => (if bt241.2 = true then (merkhetlaw19_ClampBounds.j1 kj1 l0 bt241.1 ((bt241.1.length : Int) != (l0.length : Int))) else (merkhetlaw19_ClampBounds.j1 kj1 l0 bt241.1 true)))) = some r := by rw [if_neg (show ¬ (false = true) by decide)] at H; exact H
        clear H
        have H := H1
        clear H1
        replace H := Option.bind_eq_some_iff.mp H
        obtain ⟨t238, A150, H⟩ := H
        replace H : ((clamp_Starts.f kj1 l0 t238).bind fun bt241 => (if bt241.2 = true then (merkhetlaw19_ClampBounds.j1 kj1 l0 bt241.1 ((bt241.1.length : Int) != (l0.length : Int))) else (merkhetlaw19_ClampBounds.j1 kj1 l0 bt241.1 true))) = some r := H
        have A15 := Aside0.mk A150
        clear A150
        replace H := Option.bind_eq_some_iff.mp H
        obtain ⟨⟨t241, t242⟩, A160, H⟩ := H
        replace H : (if t242 = true then (merkhetlaw19_ClampBounds.j1 kj1 l0 t241 ((t241.length : Int) != (l0.length : Int))) else (merkhetlaw19_ClampBounds.j1 kj1 l0 t241 true)) = some r := H
        have A16 := Aside0.mk A160
        clear A160
        have HC17 := Aside0.mk H
        clear H
        go_upto_region 4 with (first | ((with_reducible refine gate_callee (f := 12) rfl ?_); refine goesL_ (some 29) rfl rfl Try.func12 (by kernel_rfl) rfl #[.slice A0 l0.length c0] rfl (by (try simp only [List.map_toArray, List.map_cons, List.map_nil]); first | done | rfl | (simp only [List.length_drop, List.length_take]; rfl)) ?_; (with_reducible refine (merkhetref10_Of.calls kj1 _ _ l0 t238 _ ?side1 ?side2 A15.out).mono ?_); (case side1 => repeat (first | exact (Kd.C_below HR0.out HB.out) | (with_reducible refine Kd.C_alloc ?_ _) | (with_reducible refine Kd.C_drewN ?_ _) | (with_reducible refine Kd.C_drew ?_))); (case side2 => exact HC0.out); rintro e w18 ⟨v239, rfl, ho0, hb⟩; refine ⟨_, rfl, ?_⟩; have n0_ := Aside0.mk (Kd.R_lower ho0 (below_size (by repeat (first | (with_reducible first | exact HB.out | apply below_alloc | apply pw_below_drewN | apply below_drew1) | exact HB.out)))); have n1_ := Aside0.mk (below_step (by repeat (first | (with_reducible first | exact HB.out | apply below_alloc | apply pw_below_drewN | apply below_drew1) | exact HB.out)) hb); clear HB; have HO240 := n0_; have HB := n1_; clear n0_ n1_; (try clear hb); (try clear hb2); (try clear hk); (try clear hi); (try clear ho0); obtain ⟨Ao19, co19, eo19⟩ := Kd.R_slice HO240.out; subst eo19) | ((with_reducible refine gate_callee (f := 10) rfl ?_); refine goesL_ (some 30) rfl rfl Try.func10 (by kernel_rfl) rfl #[.slice A0 l0.length c0, .slice Ao19 t238.length co19] rfl (by (try simp only [List.map_toArray, List.map_cons, List.map_nil]); first | done | rfl | (simp only [List.length_drop, List.length_take]; rfl)) ?_; (with_reducible refine (clamp_Starts.calls kj1 _ _ l0 _ _ t238 t241 t242 _ ?side1 ?side2 ?side3 ?side4 A16.out).mono ?_); (case side1 => repeat (first | exact (Kd.C_below HR0.out HB.out) | (with_reducible refine Kd.C_alloc ?_ _) | (with_reducible refine Kd.C_drewN ?_ _) | (with_reducible refine Kd.C_drew ?_))); (case side2 => exact HC0.out); (case side3 => repeat (first | exact (Kd.R_reads' HO240.out).2.2 | (with_reducible refine Kd.C_alloc ?_ _) | (with_reducible refine Kd.C_drewN ?_ _) | (with_reducible refine Kd.C_drew ?_))); (case side4 => exact (Kd.R_reads' HO240.out).2.1); rintro e w20 ⟨v243, rfl, ho0, hb⟩; refine ⟨_, rfl, ?_⟩; have n0_ := Aside0.mk (Kd.R_below (by (with_reducible repeat (first | apply Kd.R_alloc | apply Kd.R_drewN | apply Kd.R_drew)); exact HO240.out) hb); have n1_ := Aside0.mk (Kd.R_lower ho0 (below_size (by repeat (first | (with_reducible first | exact HB.out | apply below_alloc | apply pw_below_drewN | apply below_drew1) | exact HB.out)))); have n2_ := Aside0.mk (below_step (by repeat (first | (with_reducible first | exact HB.out | apply below_alloc | apply pw_below_drewN | apply below_drew1) | exact HB.out)) hb); clear HO240; clear HB; have HO240 := n0_; have HO244 := n1_; have HB := n2_; clear n0_ n1_ n2_; (try clear hb); (try clear hb2); (try clear hk); (try clear hi); (try clear ho0)))
        (try simp only [Act.put, List.setIfInBounds_toArray, List.set_cons_zero, List.set_cons_succ])
        go_cut [41] (fun v41 wc => ∃ (kq : Nat) (x41_16 : Bool), v41 = .bool x41_16 ∧ Aside0 (merkhetlaw19_ClampBounds.j1 kq l0 t241 x41_16 = some r) ∧ Aside0 (kq ≤ kj1) ∧ Aside0 (Kd.R (Kd.int .i64) 2 wc w.heap.size (fun _ => True) v243 t241) ∧ Aside0 (Below w.heap.size w wc))
        case first =>
          have H := HC17.out
          clear HC17
          by_cases c21 : t242 = true
          · subst c21
            have H1 : (merkhetlaw19_ClampBounds.j1 kj1 l0 t241 ((t241.length : Int) != (l0.length : Int))) = some r := by rw [if_pos rfl] at H; exact H
            clear H
            have H := H1
            clear H1
            have H' := Aside0.mk H
            clear H
            obtain ⟨Ao22, co22, eo22⟩ := Kd.R_slice HO244.out
            subst eo22
            go_wp2
            go_meet
            case rel => exact ⟨_, (((t241.length : Int) != (l0.length : Int))), (by first | rfl | (simp; done) | (simp [*]; done)), H', ⟨by have := HJ1.out; first | omega | exact Nat.le_refl _⟩, ⟨by (with_reducible repeat (first | apply Kd.R_alloc | apply Kd.R_drewN | apply Kd.R_drew)); exact HO244.out⟩, ⟨by repeat (first | (with_reducible first | exact HB.out | apply below_alloc | apply pw_below_drewN | apply below_drew1) | exact HB.out)⟩⟩
          · replace c21 := Bool.eq_false_iff.mpr c21
            subst c21
            have H1 : (merkhetlaw19_ClampBounds.j1 kj1 l0 t241 true) = some r := by rw [if_neg (show ¬ (false = true) by decide)] at H; exact H
            clear H
            have H := H1
            clear H1
            have H' := Aside0.mk H
            clear H
            go_wp2
            go_meet
            case rel => exact ⟨_, (true), (by first | rfl | (simp; done) | (simp [*]; done)), H', ⟨by have := HJ1.out; first | omega | exact Nat.le_refl _⟩, ⟨by (with_reducible repeat (first | apply Kd.R_alloc | apply Kd.R_drewN | apply Kd.R_drew)); exact HO244.out⟩, ⟨by repeat (first | (with_reducible first | exact HB.out | apply below_alloc | apply pw_below_drewN | apply below_drew1) | exact HB.out)⟩⟩
        case rest =>
          clear HC17
          try clear c1
          try clear c2
          try clear p2
          try clear c4
          try clear c6
          try clear c7
          try clear c8
          try clear c9
          try clear c10
          try clear c12
          try clear c21
          try clear p2
          obtain ⟨kq, x41_16, rfl, HA, HJ16, HO_3, HB⟩ := hcut
          cases kq with
          | zero => exact absurd HA.out (by simp [merkhetlaw19_ClampBounds.j1])
          | succ kj16 =>
            have H := HA.out
            clear HA
            simp only [merkhetlaw19_ClampBounds.j1] at H
            by_cases c23 : x41_16 = true
            · subst c23
              have H1 : (some false) = some r := by rw [if_pos rfl] at H; exact H
              clear H
              have H := H1
              clear H1
              obtain rfl := Option.some.inj H
              go_wp2
              go_ret
              exact ⟨by first | rfl | (simp [errW_none, errW_some] <;> rfl) | (simp [*, errW_none, errW_some] <;> rfl), by repeat (first | (with_reducible first | exact HB.out | apply below_alloc | apply pw_below_drewN | apply below_drew1) | exact HB.out)⟩
            · replace c23 := Bool.eq_false_iff.mpr c23
              subst c23
              have H1 : (merkhetlaw19_ClampBounds.l0 kj16 l0 t241 1 l0 (l0.length : Int) 0) = some r := by rw [if_neg (show ¬ (false = true) by decide)] at H; exact H
              clear H
              have H := H1
              clear H1
              have H' := Aside0.mk H
              clear H
              go_wp2
              go_loopg [5, 44] kj16 (fun kq v5 v44 w' => ∃ (x5_3 : Int) (x44_3 : Int), v5 = .int .i64 x5_3 ∧ v44 = .int .i64 x44_3 ∧ Aside0 (merkhetlaw19_ClampBounds.l0 kq l0 t241 x5_3 l0 (l0.length : Int) x44_3 = some r) ∧ Aside0 (kq ≤ kj16) ∧ Aside0 (Kd.R (Kd.int .i64) 2 w' w.heap.size (fun _ => True) v243 t241) ∧ Aside0 (Below w.heap.size w w'))
              case atStart => exact ⟨(1), (0), (by first | rfl | (simp; done) | (simp [*]; done)), (by first | rfl | (simp; done) | (simp [*]; done)), H', ⟨Nat.le_refl _⟩, ⟨by (with_reducible repeat (first | apply Kd.R_alloc | apply Kd.R_drewN | apply Kd.R_drew)); exact HO_3.out⟩, ⟨by repeat (first | (with_reducible first | exact HB.out | apply below_alloc | apply pw_below_drewN | apply below_drew1) | exact HB.out)⟩⟩
              case round =>
                clear H'
                try clear c1
                try clear c2
                try clear p2
                try clear c4
                try clear c6
                try clear c7
                try clear c8
                try clear c9
                try clear c10
                try clear c12
                try clear c21
                try clear c23
                try clear p2
                obtain ⟨x5_3, x44_3, rfl, rfl, HA, HK3, HO_3, HB⟩ := hrel
                cases gk with
                | zero => exact absurd HA.out (by simp [merkhetlaw19_ClampBounds.l0])
                | succ k3 =>
                  have H := HA.out
                  clear HA
                  simp only [merkhetlaw19_ClampBounds.l0] at H
                  by_cases c24 : x44_3 < (l0.length : Int)
                  · rw [if_pos c24] at H
                    have c24b0 : decide (x44_3 < (l0.length : Int)) = true := decide_eq_true c24
                    clear c24
                    by_cases c25 : 0 ≤ x44_3
                    · rw [if_pos c25] at H
                      have c25b0 : decide (0 ≤ x44_3) = true := decide_eq_true c25
                      clear c25
                      by_cases c26 : x44_3 < (l0.length : Int)
                      · rw [if_pos c26] at H
                        have c26b0 : decide (x44_3 < (l0.length : Int)) = true := decide_eq_true c26
                        clear c26
                        have H' := Aside0.mk H
                        clear H
                        have p245 : 0 ≤ (x44_3 : Int) := of_decide_eq_true (by first | (with_reducible assumption) | assumption)
                        have q245 : x44_3 < (l0.length : Int) := of_decide_eq_true (by first | (with_reducible assumption) | assumption)
                        obtain ⟨ad245, e245, hx245_0, hx245_1, hx245_2, hx245_3, hx245_4, hx245_5, hx245_6, hx245_7⟩ := at_T34 HR0.out x44_3 p245 q245
                        cases e245
                        replace hx245_0 := (HB.out.cell (World.block_lt_of_cell? w _ hx245_0)).trans hx245_0
                        replace hx245_1 := (HB.out.cell (World.block_lt_of_cell? w _ hx245_1)).trans hx245_1
                        replace hx245_2 := (HB.out.cell (World.block_lt_of_cell? w _ hx245_2)).trans hx245_2
                        replace hx245_3 := (HB.out.cell (World.block_lt_of_cell? w _ hx245_3)).trans hx245_3
                        replace hx245_4 := (HB.out.cell (World.block_lt_of_cell? w _ hx245_4)).trans hx245_4
                        replace hx245_5 := (HB.out.cell (World.block_lt_of_cell? w _ hx245_5)).trans hx245_5
                        replace hx245_6 := (HB.out.cell (World.block_lt_of_cell? w _ hx245_6)).trans hx245_6
                        replace hx245_7 := (HB.out.cell (World.block_lt_of_cell? w _ hx245_7)).trans hx245_7
                        replace p245 := eq_true p245
                        replace q245 := eq_true q245
                        go_wp2_with (first | ((with_reducible refine gate_dst (N := 7) rfl ?_); (try (refine gate_guard (by rfl) ?_; dsimp only)); refine box_event ?hg (N := 7) ?hd (cs := #[.int .u64 0, .int .u64 0, .int .u64 0, .int .u8 0, .string (⟨#[]⟩ : ByteArray), .string (⟨#[]⟩ : ByteArray), .int .i64 0, .int .i64 0]) (t := 34) ?hr ?_; (case hd => rfl); (case hg => rfl); (case hr => first | (go_simp; done) | (go_simp; rfl)); intro gb246 hg w27 hbox hb; have n0_ := Aside0.mk (Kd.R_below (by (with_reducible repeat (first | apply Kd.R_alloc | apply Kd.R_drewN | apply Kd.R_drew)); exact HO_3.out) hb); have n1_ := Aside0.mk (below_step (by repeat (first | (with_reducible first | exact HB.out | apply below_alloc | apply pw_below_drewN | apply below_drew1) | exact HB.out)) hb); have n2_ := Aside0.mk (hbox); have n3_ := Aside0.mk ((by rw [hg]; exact (below_size (by repeat (first | (with_reducible first | exact HB.out | apply below_alloc | apply pw_below_drewN | apply below_drew1) | exact HB.out))) : w.heap.size ≤ gb246)); have n4_ := Aside0.mk ((by rw [hg]; exact (below_size (by repeat (first | (with_reducible first | exact HB.out | apply below_alloc | apply pw_below_drewN | apply below_drew1) | exact HB.out))) : w.heap.size ≤ gb246)); clear HO_3; clear HB; have HO_3 := n0_; have HB := n1_; have BK246 := n2_; have GW246 := n3_; have GE246 := n4_; clear n0_ n1_ n2_ n3_ n4_; clear hb hbox hg; have hcz28_0 : w27.cell? ⟨gb246, 0, none⟩ = some (.int .u64 0) := (blk_cell BK246.out 0).trans rfl; have hcz28_1 : w27.cell? ⟨gb246, 1, none⟩ = some (.int .u64 0) := (blk_cell BK246.out 1).trans rfl; have hcz28_2 : w27.cell? ⟨gb246, 2, none⟩ = some (.int .u64 0) := (blk_cell BK246.out 2).trans rfl; have hcz28_3 : w27.cell? ⟨gb246, 3, none⟩ = some (.int .u8 0) := (blk_cell BK246.out 3).trans rfl; have hcz28_4 : w27.cell? ⟨gb246, 4, none⟩ = some (.string (⟨#[]⟩ : ByteArray)) := (blk_cell BK246.out 4).trans rfl; have hcz28_5 : w27.cell? ⟨gb246, 5, none⟩ = some (.string (⟨#[]⟩ : ByteArray)) := (blk_cell BK246.out 5).trans rfl; have hcz28_6 : w27.cell? ⟨gb246, 6, none⟩ = some (.int .i64 0) := (blk_cell BK246.out 6).trans rfl; have hcz28_7 : w27.cell? ⟨gb246, 7, none⟩ = some (.int .i64 0) := (blk_cell BK246.out 7).trans rfl; have hfz28_0 := blk_frozen BK246.out 0; have hfz28_1 := blk_frozen BK246.out 1; have hfz28_2 := blk_frozen BK246.out 2; have hfz28_3 := blk_frozen BK246.out 3; have hfz28_4 := blk_frozen BK246.out 4; have hfz28_5 := blk_frozen BK246.out 5; have hfz28_6 := blk_frozen BK246.out 6; have hfz28_7 := blk_frozen BK246.out 7))
                        go_roundg k3
                        case measure => have := HJ1.out; have := HJ16.out; have := HK3.out; omega
                        case rel => exact ⟨(wrap64 (x5_3 + ((rd_T34 l0 x44_3).f7))), (wrap64 (x44_3 + 1)), (by first | rfl | (simp; done) | (simp [*]; done)), (by first | rfl | (simp; done) | (simp [*]; done)), H', ⟨by have := HJ1.out; have := HJ16.out; have := HK3.out; omega⟩, ⟨by (with_reducible repeat (first | apply Kd.R_alloc | apply Kd.R_drewN | apply Kd.R_drew)); exact Kd.R_mono (Kd.R_far (p := ⟨gb246, 7, none⟩) (Kd.R_far (p := ⟨gb246, 6, none⟩) (Kd.R_far (p := ⟨gb246, 5, none⟩) (Kd.R_far (p := ⟨gb246, 4, none⟩) (Kd.R_far (p := ⟨gb246, 3, none⟩) (Kd.R_far (p := ⟨gb246, 2, none⟩) (Kd.R_far (p := ⟨gb246, 1, none⟩) (Kd.R_far (p := ⟨gb246, 0, none⟩) (Kd.R_types HO_3.out BK246.out (by decide)) (fun _ hk => hk.2) (.int .u64 ((rd_T34 l0 x44_3).f0))) (fun _ hk => hk.2) (.int .u64 ((rd_T34 l0 x44_3).f1))) (fun _ hk => hk.2) (.int .u64 ((rd_T34 l0 x44_3).f2))) (fun _ hk => hk.2) (.int .u8 ((rd_T34 l0 x44_3).f3))) (fun _ hk => hk.2) (.string ((rd_T34 l0 x44_3).f4))) (fun _ hk => hk.2) (.string ((rd_T34 l0 x44_3).f5))) (fun _ hk => hk.2) (.int .i64 ((rd_T34 l0 x44_3).f6))) (fun _ hk => hk.2) (.int .i64 ((rd_T34 l0 x44_3).f7))) (fun _ hk => trivial)⟩, ⟨by repeat (first | (with_reducible first | exact HB.out | apply below_alloc | apply pw_below_drewN | apply below_drew1 | refine below_set ?_ GE246.out) | exact HB.out)⟩⟩
                      · rw [if_neg c26] at H
                        exact absurd H (by simp)
                    · rw [if_neg c25] at H
                      exact absurd H (by simp)
                  · rw [if_neg c24] at H
                    have c24b0 : decide (x44_3 < (l0.length : Int)) = false := decide_eq_false c24
                    clear c24
                    have H' := Aside0.mk H
                    clear H
                    go_wp2
                    go_loopg [8, 55] k3 (fun kq v8 v55 w' => ∃ (x8_4 : Int) (x55_4 : Int), v8 = .int .i64 x8_4 ∧ v55 = .int .i64 x55_4 ∧ Aside0 (merkhetlaw19_ClampBounds.l1 kq t241 x5_3 x8_4 l0 (l0.length : Int) x55_4 = some r) ∧ Aside0 (kq ≤ k3) ∧ Aside0 (Kd.R (Kd.int .i64) 2 w' w.heap.size (fun _ => True) v243 t241) ∧ Aside0 (Below w.heap.size w w'))
                    case atStart => exact ⟨(0), (0), (by first | rfl | (simp; done) | (simp [*]; done)), (by first | rfl | (simp; done) | (simp [*]; done)), H', ⟨Nat.le_refl _⟩, ⟨by (with_reducible repeat (first | apply Kd.R_alloc | apply Kd.R_drewN | apply Kd.R_drew)); exact HO_3.out⟩, ⟨by repeat (first | (with_reducible first | exact HB.out | apply below_alloc | apply pw_below_drewN | apply below_drew1) | exact HB.out)⟩⟩
                    case round =>
                      clear H'
                      try clear c1
                      try clear c2
                      try clear p2
                      try clear q2
                      try clear hx2
                      try clear c4
                      try clear c6
                      try clear p6
                      try clear c7
                      try clear c8
                      try clear c9
                      try clear c10
                      try clear c12
                      try clear c21
                      try clear c23
                      try clear c24
                      try clear c24b0
                      try clear p24
                      try clear q24
                      try clear hx24
                      try clear c25
                      try clear c25b0
                      try clear c26
                      try clear c26b0
                      try clear hcz28_0
                      try clear hcz28_1
                      try clear hcz28_2
                      try clear hcz28_3
                      try clear hcz28_4
                      try clear hcz28_5
                      try clear hcz28_6
                      try clear hcz28_7
                      try clear hfz28_0
                      try clear hfz28_1
                      try clear hfz28_2
                      try clear hfz28_3
                      try clear hfz28_4
                      try clear hfz28_5
                      try clear hfz28_6
                      try clear hfz28_7
                      try clear hx245_0
                      try clear hx245_1
                      try clear hx245_2
                      try clear hx245_3
                      try clear hx245_4
                      try clear hx245_5
                      try clear hx245_6
                      try clear hx245_7
                      try clear p2
                      try clear p245
                      try clear q245
                      obtain ⟨x8_4, x55_4, rfl, rfl, HA, HK4, HO_3, HB⟩ := hrel
                      cases gk with
                      | zero => exact absurd HA.out (by simp [merkhetlaw19_ClampBounds.l1])
                      | succ k4 =>
                        have H := HA.out
                        clear HA
                        simp only [merkhetlaw19_ClampBounds.l1] at H
                        by_cases c29 : x55_4 < (l0.length : Int)
                        · rw [if_pos c29] at H
                          have c29b0 : decide (x55_4 < (l0.length : Int)) = true := decide_eq_true c29
                          clear c29
                          by_cases c30 : 0 ≤ x55_4
                          · rw [if_pos c30] at H
                            have c30b0 : decide (0 ≤ x55_4) = true := decide_eq_true c30
                            clear c30
                            by_cases c31 : x55_4 < (l0.length : Int)
                            · rw [if_pos c31] at H
                              have c31b0 : decide (x55_4 < (l0.length : Int)) = true := decide_eq_true c31
                              clear c31
                              obtain ⟨ji32, hji32⟩ : ∃ j_ : Int, (mx x8_4 ((rd_T34 l0 x55_4).f6)) = j_ := ⟨_, rfl⟩
                              replace H : (merkhetlaw19_ClampBounds.l1 k4 t241 x5_3 ji32 l0 (l0.length : Int) (wrap64 (x55_4 + 1))) = some r := by first | (rw [hji32] at H; exact H) | (simp only [hji32] at H ⊢; exact H)
                              have hji32_ : (if x8_4 < ((rd_T34 l0 x55_4).f6) then ((rd_T34 l0 x55_4).f6) else x8_4) = ji32 := hji32
                              have H' := Aside0.mk H
                              clear H
                              have p247 : 0 ≤ (x55_4 : Int) := of_decide_eq_true (by first | (with_reducible assumption) | assumption)
                              have q247 : x55_4 < (l0.length : Int) := of_decide_eq_true (by first | (with_reducible assumption) | assumption)
                              obtain ⟨ad247, e247, hx247_0, hx247_1, hx247_2, hx247_3, hx247_4, hx247_5, hx247_6, hx247_7⟩ := at_T34 HR0.out x55_4 p247 q247
                              cases e247
                              replace hx247_0 := (HB.out.cell (World.block_lt_of_cell? w _ hx247_0)).trans hx247_0
                              replace hx247_1 := (HB.out.cell (World.block_lt_of_cell? w _ hx247_1)).trans hx247_1
                              replace hx247_2 := (HB.out.cell (World.block_lt_of_cell? w _ hx247_2)).trans hx247_2
                              replace hx247_3 := (HB.out.cell (World.block_lt_of_cell? w _ hx247_3)).trans hx247_3
                              replace hx247_4 := (HB.out.cell (World.block_lt_of_cell? w _ hx247_4)).trans hx247_4
                              replace hx247_5 := (HB.out.cell (World.block_lt_of_cell? w _ hx247_5)).trans hx247_5
                              replace hx247_6 := (HB.out.cell (World.block_lt_of_cell? w _ hx247_6)).trans hx247_6
                              replace hx247_7 := (HB.out.cell (World.block_lt_of_cell? w _ hx247_7)).trans hx247_7
                              replace p247 := eq_true p247
                              replace q247 := eq_true q247
                              go_wp2_with (first | ((with_reducible refine gate_dst (N := 10) rfl ?_); (try (refine gate_guard (by rfl) ?_; dsimp only)); refine box_event ?hg (N := 10) ?hd (cs := #[.int .u64 0, .int .u64 0, .int .u64 0, .int .u8 0, .string (⟨#[]⟩ : ByteArray), .string (⟨#[]⟩ : ByteArray), .int .i64 0, .int .i64 0]) (t := 34) ?hr ?_; (case hd => rfl); (case hg => rfl); (case hr => first | (go_simp; done) | (go_simp; rfl)); intro gb248 hg w33 hbox hb; have n0_ := Aside0.mk (Kd.R_below (by (with_reducible repeat (first | apply Kd.R_alloc | apply Kd.R_drewN | apply Kd.R_drew)); exact HO_3.out) hb); have n1_ := Aside0.mk (below_step (by repeat (first | (with_reducible first | exact HB.out | apply below_alloc | apply pw_below_drewN | apply below_drew1) | exact HB.out)) hb); have n2_ := Aside0.mk (hbox); have n3_ := Aside0.mk ((by rw [hg]; exact (below_size (by repeat (first | (with_reducible first | exact HB.out | apply below_alloc | apply pw_below_drewN | apply below_drew1) | exact HB.out))) : w.heap.size ≤ gb248)); have n4_ := Aside0.mk ((by rw [hg]; exact (below_size (by repeat (first | (with_reducible first | exact HB.out | apply below_alloc | apply pw_below_drewN | apply below_drew1) | exact HB.out))) : w.heap.size ≤ gb248)); clear HO_3; clear HB; have HO_3 := n0_; have HB := n1_; have BK248 := n2_; have GW248 := n3_; have GE248 := n4_; clear n0_ n1_ n2_ n3_ n4_; clear hb hbox hg; have hcz34_0 : w33.cell? ⟨gb248, 0, none⟩ = some (.int .u64 0) := (blk_cell BK248.out 0).trans rfl; have hcz34_1 : w33.cell? ⟨gb248, 1, none⟩ = some (.int .u64 0) := (blk_cell BK248.out 1).trans rfl; have hcz34_2 : w33.cell? ⟨gb248, 2, none⟩ = some (.int .u64 0) := (blk_cell BK248.out 2).trans rfl; have hcz34_3 : w33.cell? ⟨gb248, 3, none⟩ = some (.int .u8 0) := (blk_cell BK248.out 3).trans rfl; have hcz34_4 : w33.cell? ⟨gb248, 4, none⟩ = some (.string (⟨#[]⟩ : ByteArray)) := (blk_cell BK248.out 4).trans rfl; have hcz34_5 : w33.cell? ⟨gb248, 5, none⟩ = some (.string (⟨#[]⟩ : ByteArray)) := (blk_cell BK248.out 5).trans rfl; have hcz34_6 : w33.cell? ⟨gb248, 6, none⟩ = some (.int .i64 0) := (blk_cell BK248.out 6).trans rfl; have hcz34_7 : w33.cell? ⟨gb248, 7, none⟩ = some (.int .i64 0) := (blk_cell BK248.out 7).trans rfl; have hfz34_0 := blk_frozen BK248.out 0; have hfz34_1 := blk_frozen BK248.out 1; have hfz34_2 := blk_frozen BK248.out 2; have hfz34_3 := blk_frozen BK248.out 3; have hfz34_4 := blk_frozen BK248.out 4; have hfz34_5 := blk_frozen BK248.out 5; have hfz34_6 := blk_frozen BK248.out 6; have hfz34_7 := blk_frozen BK248.out 7))
                              go_roundg k4
                              case measure => have := HJ1.out; have := HJ16.out; have := HK3.out; have := HK4.out; omega
                              case rel => exact ⟨(ji32), (wrap64 (x55_4 + 1)), (by first | rfl | (simp; done) | (simp only [← hji32] <;> (first | rfl | simp)) | (simp [*]; done)), (by first | rfl | (simp; done) | (simp [*]; done)), H', ⟨by have := HJ1.out; have := HJ16.out; have := HK3.out; have := HK4.out; omega⟩, ⟨by (with_reducible repeat (first | apply Kd.R_alloc | apply Kd.R_drewN | apply Kd.R_drew)); exact Kd.R_mono (Kd.R_far (p := ⟨gb248, 7, none⟩) (Kd.R_far (p := ⟨gb248, 6, none⟩) (Kd.R_far (p := ⟨gb248, 5, none⟩) (Kd.R_far (p := ⟨gb248, 4, none⟩) (Kd.R_far (p := ⟨gb248, 3, none⟩) (Kd.R_far (p := ⟨gb248, 2, none⟩) (Kd.R_far (p := ⟨gb248, 1, none⟩) (Kd.R_far (p := ⟨gb248, 0, none⟩) (Kd.R_types HO_3.out BK248.out (by decide)) (fun _ hk => hk.2) (.int .u64 ((rd_T34 l0 x55_4).f0))) (fun _ hk => hk.2) (.int .u64 ((rd_T34 l0 x55_4).f1))) (fun _ hk => hk.2) (.int .u64 ((rd_T34 l0 x55_4).f2))) (fun _ hk => hk.2) (.int .u8 ((rd_T34 l0 x55_4).f3))) (fun _ hk => hk.2) (.string ((rd_T34 l0 x55_4).f4))) (fun _ hk => hk.2) (.string ((rd_T34 l0 x55_4).f5))) (fun _ hk => hk.2) (.int .i64 ((rd_T34 l0 x55_4).f6))) (fun _ hk => hk.2) (.int .i64 ((rd_T34 l0 x55_4).f7))) (fun _ hk => trivial)⟩, ⟨by repeat (first | (with_reducible first | exact HB.out | apply below_alloc | apply pw_below_drewN | apply below_drew1 | refine below_set ?_ GE248.out) | exact HB.out)⟩⟩
                            · rw [if_neg c31] at H
                              exact absurd H (by simp)
                          · rw [if_neg c30] at H
                            exact absurd H (by simp)
                        · rw [if_neg c29] at H
                          have c29b0 : decide (x55_4 < (l0.length : Int)) = false := decide_eq_false c29
                          clear c29
                          have H' := Aside0.mk H
                          clear H
                          obtain ⟨Ao35, co35, eo35⟩ := Kd.R_slice HO_3.out
                          subst eo35
                          go_wp2
                          go_loopg [66] k4 (fun kq v66 w' => ∃ (x66_5 : Int), v66 = .int .i64 x66_5 ∧ Aside0 (merkhetlaw19_ClampBounds.l2 kq x5_3 x8_4 t241 (t241.length : Int) x66_5 = some r) ∧ Aside0 (kq ≤ k4) ∧ Aside0 (Kd.R (Kd.int .i64) 2 w' w.heap.size (fun _ => True) (.slice Ao35 t241.length co35) t241) ∧ Aside0 (Below w.heap.size w w'))
                          case atStart => exact ⟨(0), (by first | rfl | (simp; done) | (simp [*]; done)), H', ⟨Nat.le_refl _⟩, ⟨by (with_reducible repeat (first | apply Kd.R_alloc | apply Kd.R_drewN | apply Kd.R_drew)); exact HO_3.out⟩, ⟨by repeat (first | (with_reducible first | exact HB.out | apply below_alloc | apply pw_below_drewN | apply below_drew1) | exact HB.out)⟩⟩
                          case round =>
                            clear H'
                            try clear c1
                            try clear c2
                            try clear p2
                            try clear q2
                            try clear hx2
                            try clear c3
                            try clear c4
                            try clear c6
                            try clear p6
                            try clear c7
                            try clear c8
                            try clear c9
                            try clear c10
                            try clear c12
                            try clear c21
                            try clear c23
                            try clear c24
                            try clear c24b0
                            try clear p24
                            try clear q24
                            try clear hx24
                            try clear c25
                            try clear c25b0
                            try clear c26
                            try clear c26b0
                            try clear c29
                            try clear c29b0
                            try clear c30
                            try clear c30b0
                            try clear c31
                            try clear c31b0
                            try clear hcz28_0
                            try clear hcz28_1
                            try clear hcz28_2
                            try clear hcz28_3
                            try clear hcz28_4
                            try clear hcz28_5
                            try clear hcz28_6
                            try clear hcz28_7
                            try clear hcz34_0
                            try clear hcz34_1
                            try clear hcz34_2
                            try clear hcz34_3
                            try clear hcz34_4
                            try clear hcz34_5
                            try clear hcz34_6
                            try clear hcz34_7
                            try clear hfz28_0
                            try clear hfz28_1
                            try clear hfz28_2
                            try clear hfz28_3
                            try clear hfz28_4
                            try clear hfz28_5
                            try clear hfz28_6
                            try clear hfz28_7
                            try clear hfz34_0
                            try clear hfz34_1
                            try clear hfz34_2
                            try clear hfz34_3
                            try clear hfz34_4
                            try clear hfz34_5
                            try clear hfz34_6
                            try clear hfz34_7
                            try clear hx245_0
                            try clear hx245_1
                            try clear hx245_2
                            try clear hx245_3
                            try clear hx245_4
                            try clear hx245_5
                            try clear hx245_6
                            try clear hx245_7
                            try clear hx247_0
                            try clear hx247_1
                            try clear hx247_2
                            try clear hx247_3
                            try clear hx247_4
                            try clear hx247_5
                            try clear hx247_6
                            try clear hx247_7
                            try clear p2
                            try clear p24
                            try clear p245
                            try clear p247
                            try clear p6
                            try clear q2
                            try clear q24
                            try clear q245
                            try clear q247
                            obtain ⟨x66_5, rfl, HA, HK5, HO_64, HB⟩ := hrel
                            cases gk with
                            | zero => exact absurd HA.out (by simp [merkhetlaw19_ClampBounds.l2])
                            | succ k5 =>
                              have H := HA.out
                              clear HA
                              simp only [merkhetlaw19_ClampBounds.l2] at H
                              by_cases c36 : x66_5 < (t241.length : Int)
                              · rw [if_pos c36] at H
                                have c36b0 : decide (x66_5 < (t241.length : Int)) = true := decide_eq_true c36
                                clear c36
                                by_cases c37 : 0 ≤ x66_5
                                · rw [if_pos c37] at H
                                  have c37b0 : decide (0 ≤ x66_5) = true := decide_eq_true c37
                                  clear c37
                                  by_cases c38 : x66_5 < (t241.length : Int)
                                  · rw [if_pos c38] at H
                                    have c38b0 : decide (x66_5 < (t241.length : Int)) = true := decide_eq_true c38
                                    clear c38
                                    by_cases c39 : (rd t241 x66_5) < 0
                                    · rw [if_pos c39] at H
                                      have c39b0 : decide ((rd t241 x66_5) < 0) = true := decide_eq_true c39
                                      clear c39
                                      obtain rfl := Option.some.inj H
                                      have p249 : 0 ≤ (x66_5 : Int) := of_decide_eq_true (by first | (with_reducible assumption) | assumption)
                                      have q249 : x66_5 < (t241.length : Int) := of_decide_eq_true (by first | (with_reducible assumption) | assumption)
                                      obtain ⟨ad249, e249, hx249_0⟩ := Kd.at_int (Kd.R_reads' HO_64.out).2.2 x66_5 p249 q249
                                      cases e249
                                      replace p249 := eq_true p249
                                      replace q249 := eq_true q249
                                      go_wp2
                                      go_ret
                                      exact ⟨by first | rfl | (simp [errW_none, errW_some] <;> rfl) | (simp [*, errW_none, errW_some] <;> rfl), by repeat (first | (with_reducible first | exact HB.out | apply below_alloc | apply pw_below_drewN | apply below_drew1) | exact HB.out)⟩
                                    · rw [if_neg c39] at H
                                      have c39b0 : decide ((rd t241 x66_5) < 0) = false := decide_eq_false c39
                                      clear c39
                                      by_cases c40 : (rd t241 x66_5) ≥ (wrap64 (x8_4 + x5_3))
                                      · rw [if_pos c40] at H
                                        have c40b0 : decide ((wrap64 (x8_4 + x5_3)) ≤ (rd t241 x66_5)) = true := decide_eq_true c40
                                        clear c40
                                        obtain rfl := Option.some.inj H
                                        have p249 : 0 ≤ (x66_5 : Int) := of_decide_eq_true (by first | (with_reducible assumption) | assumption)
                                        have q249 : x66_5 < (t241.length : Int) := of_decide_eq_true (by first | (with_reducible assumption) | assumption)
                                        obtain ⟨ad249, e249, hx249_0⟩ := Kd.at_int (Kd.R_reads' HO_64.out).2.2 x66_5 p249 q249
                                        cases e249
                                        replace p249 := eq_true p249
                                        replace q249 := eq_true q249
                                        go_wp2
                                        go_ret
                                        exact ⟨by first | rfl | (simp [errW_none, errW_some] <;> rfl) | (simp [*, errW_none, errW_some] <;> rfl), by repeat (first | (with_reducible first | exact HB.out | apply below_alloc | apply pw_below_drewN | apply below_drew1) | exact HB.out)⟩
                                      · rw [if_neg c40] at H
                                        have c40b0 : decide ((wrap64 (x8_4 + x5_3)) ≤ (rd t241 x66_5)) = false := decide_eq_false c40
                                        clear c40
                                        have H' := Aside0.mk H
                                        clear H
                                        have p249 : 0 ≤ (x66_5 : Int) := of_decide_eq_true (by first | (with_reducible assumption) | assumption)
                                        have q249 : x66_5 < (t241.length : Int) := of_decide_eq_true (by first | (with_reducible assumption) | assumption)
                                        obtain ⟨ad249, e249, hx249_0⟩ := Kd.at_int (Kd.R_reads' HO_64.out).2.2 x66_5 p249 q249
                                        cases e249
                                        replace p249 := eq_true p249
                                        replace q249 := eq_true q249
                                        go_wp2
                                        go_roundg k5
                                        case measure => have := HJ1.out; have := HJ16.out; have := HK3.out; have := HK4.out; have := HK5.out; omega
                                        case rel => exact ⟨(wrap64 (x66_5 + 1)), (by first | rfl | (simp; done) | (simp [*]; done)), H', ⟨by have := HJ1.out; have := HJ16.out; have := HK3.out; have := HK4.out; have := HK5.out; omega⟩, ⟨by (with_reducible repeat (first | apply Kd.R_alloc | apply Kd.R_drewN | apply Kd.R_drew)); exact HO_64.out⟩, ⟨by repeat (first | (with_reducible first | exact HB.out | apply below_alloc | apply pw_below_drewN | apply below_drew1) | exact HB.out)⟩⟩
                                  · rw [if_neg c38] at H
                                    exact absurd H (by simp)
                                · rw [if_neg c37] at H
                                  exact absurd H (by simp)
                              · rw [if_neg c36] at H
                                have c36b0 : decide (x66_5 < (t241.length : Int)) = false := decide_eq_false c36
                                clear c36
                                replace H := Option.bind_eq_some_iff.mp H
                                obtain ⟨t250, A410, H⟩ := H
                                replace H : (some t250) = some r := H
                                have A41 := Aside0.mk A410
                                clear A410
                                obtain rfl := Option.some.inj H
                                go_wp2_with (first | ((with_reducible refine gate_callee (f := 9) rfl ?_); refine goesL_ (some 80) rfl rfl Try.func9 (by kernel_rfl) rfl #[] rfl (by (try simp only [List.map_toArray, List.map_cons, List.map_nil]); first | done | rfl | (simp only [List.length_drop, List.length_take]; rfl)) ?_; (with_reducible refine (merkhetlaw19_fixed.calls k5  t250 _ A41.out).mono ?_); rintro e w42 ⟨rfl, hb⟩; refine ⟨_, rfl, ?_⟩; have n0_ := Aside0.mk (Kd.R_below (by (with_reducible repeat (first | apply Kd.R_alloc | apply Kd.R_drewN | apply Kd.R_drew)); exact HO_64.out) hb); have n1_ := Aside0.mk (below_step (by repeat (first | (with_reducible first | exact HB.out | apply below_alloc | apply pw_below_drewN | apply below_drew1) | exact HB.out)) hb); clear HO_64; clear HB; have HO_64 := n0_; have HB := n1_; clear n0_ n1_; (try clear hb); (try clear hb2); (try clear hk); (try clear hi)))
                                go_ret
                                exact ⟨by first | rfl | (simp [errW_none, errW_some] <;> rfl) | (simp [*, errW_none, errW_some] <;> rfl), by repeat (first | (with_reducible first | exact HB.out | apply below_alloc | apply pw_below_drewN | apply below_drew1) | exact HB.out)⟩

/-- THE ONE PURE STATEMENT of merkhetlaw19_ClampBounds. -/
def merkhetlaw19_ClampBounds.Pure : Prop := ∀ (l0 : List (S34)), l0.length ≤ maxLen → (∀ x0_ ∈ l0, ((Lit.int .u64 x0_.f0).wf = true ∧ (Lit.int .u64 x0_.f1).wf = true ∧ (Lit.int .u64 x0_.f2).wf = true ∧ (Lit.int .u8 x0_.f3).wf = true ∧ x0_.f4.size ≤ maxLen ∧ x0_.f5.size ≤ maxLen ∧ (Lit.int .i64 x0_.f6).wf = true ∧ (Lit.int .i64 x0_.f7).wf = true)) → ∃ k, merkhetlaw19_ClampBounds.f k l0 = some true

end Go.Proofs.Ythlekphkibeflaa.C
