-- WRITTEN FOR THIS CLAIM by wip/tools/mp.py, a program of this project that drives the kit's print; the functions that the print does not take are this project's own texts.
import Derived.Test.YtcgjplolehhpjaaOx0
import Derived.Test.YtcgjplolehhpjaaOx2
import Derived.Test.YtcgjplolehhpjaaOx3
import Derived.Test.YtcgjplolehhpjaaOx4
namespace Go.Proofs.Ytcgjplolehhpjaa.O
open Go.RowKit Go.Proofs.YtcgjplolehhpjaaW.PrintWords Go.Proofs.YtcgjplolehhpjaaW.PrintLast Go.Proofs.YtcgjplolehhpjaaW.PrintMore
attribute [local go_sem] max2_int min2_int max_two min_two max_three min_three max_four min_four   -- for this text's walks alone
set_option linter.unusedVariables false
set_option linter.unusedSimpArgs false

/-! ### merkhetlaw11_ForestRows: function 5 -/
def merkhetlaw11_ForestRows.f (k : Nat) (l0 : List Int) : Option (Bool) := if (l0.length : Int) > 60 then ((merkhetlaw11_fixed.f k).bind fun t171 => (some t171)) else ((merkhetlaw11_fixed.f k).bind fun t172 => (if t172 = true then ((forest_Row.f k l0).bind fun t173 => ((merkhetref11_Row.f k l0).bind fun t176 => ((merkhetref11_Same.f k t173 t176).bind fun t179 => (if t179 = true then ((forest_Depth.f k l0).bind fun t180 => ((merkhetref11_Depth.f k l0).bind fun t181 => (some (t180 == t181)))) else (some false))))) else (some false)))
theorem merkhetlaw11_ForestRows.mono : ∀ a0 k, LeO (merkhetlaw11_ForestRows.f k a0) (merkhetlaw11_ForestRows.f (k + 1) a0) := by
  intro a0 k
  unfold merkhetlaw11_ForestRows.f
  repeat' first
      | (with_reducible exact forest_Depth.mono _ _)
      | (with_reducible exact forest_Row.mono _ _)
      | (with_reducible exact merkhetlaw11_fixed.mono _)
      | (with_reducible exact merkhetref11_Depth.mono _ _)
      | (with_reducible exact merkhetref11_Row.mono _ _)
      | (with_reducible exact merkhetref11_Same.mono _ _ _)
      | (with_reducible exact LeO.refl _)
      | (with_reducible exact LeO.none _)
      | (with_reducible refine LeO.ite ?_ ?_)
      | (with_reducible refine LeO.bind ?_ (fun _ => ?_))
      | exact forest_Depth.mono _ _
      | exact forest_Row.mono _ _
      | exact merkhetlaw11_fixed.mono _
      | exact merkhetref11_Depth.mono _ _
      | exact merkhetref11_Row.mono _ _
      | exact merkhetref11_Same.mono _ _ _
      | exact LeO.none _
      | refine LeO.ite ?_ ?_
      | refine LeO.bind ?_ (fun _ => ?_)
set_option maxHeartbeats 8000000 in
set_option maxRecDepth 100000 in
theorem merkhetlaw11_ForestRows.calls (k : Nat) (A0 : Option Addr) (c0 : Nat) (l0 : List Int) (r : Bool) (w : World) (hr0 : Kd.C (Kd.int .i64) w A0 l0.length l0) (hc0 : l0.length ≤ c0) (h : merkhetlaw11_ForestRows.f k l0 = some r) :
    Calls Try.prog 5 #[.slice A0 l0.length c0] w fun e w' => e = .returned (.bool r) ∧ Below w.heap.size w w' := by
  have HR0 := Aside0.mk hr0
  have HC0 := Aside0.mk hc0
  clear hr0 hc0
  have HB := Aside0.mk (Below.refl w.heap.size w)
  have H : (if (l0.length : Int) > 60 then ((merkhetlaw11_fixed.f k).bind fun t171 => (some t171)) else ((merkhetlaw11_fixed.f k).bind fun t172 => (if t172 = true then ((forest_Row.f k l0).bind fun t173 => ((merkhetref11_Row.f k l0).bind fun t176 => ((merkhetref11_Same.f k t173 t176).bind fun t179 => (if t179 = true then ((forest_Depth.f k l0).bind fun t180 => ((merkhetref11_Depth.f k l0).bind fun t181 => (some (t180 == t181)))) else (some false))))) else (some false)))) = some r := h
  clear h
  by_cases c2 : (l0.length : Int) > 60
  · rw [if_pos c2] at H
    have c2b0 : decide (60 < (l0.length : Int)) = true := decide_eq_true c2
    have c2b1 : decide (60 < l0.length) = true := decide_eq_true (by omega)
    clear c2
    replace H := Option.bind_eq_some_iff.mp H
    obtain ⟨t171, A30, H⟩ := H
    replace H : (some t171) = some r := H
    have A3 := Aside0.mk A30
    clear A30
    obtain rfl := Option.some.inj H
    go_enter Try.func5, Try.ntmps5
    go_wp2_with (first | ((with_reducible refine gate_callee (f := 19) rfl ?_); refine goesL_ (some 6) rfl rfl Try.func19 (by kernel_rfl) rfl #[] rfl (by (try simp only [List.map_toArray, List.map_cons, List.map_nil]); first | done | rfl | (simp only [List.length_drop, List.length_take]; rfl)) ?_; (with_reducible refine (merkhetlaw11_fixed.calls k  t171 _ A3.out).mono ?_); rintro e w4 ⟨rfl, hb⟩; refine ⟨_, rfl, ?_⟩; have n0_ := Aside0.mk (below_step (by repeat (first | (with_reducible first | exact HB.out | apply below_alloc | apply pw_below_drewN | apply below_drew1) | exact HB.out)) hb); clear HB; have HB := n0_; clear n0_; (try clear hb); (try clear hb2); (try clear hk); (try clear hi)))
    go_ret
    exact ⟨by first | rfl | (simp [errW_none, errW_some] <;> rfl) | (simp [*, errW_none, errW_some] <;> rfl), by repeat (first | (with_reducible first | exact HB.out | apply below_alloc | apply pw_below_drewN | apply below_drew1) | exact HB.out)⟩
  · rw [if_neg c2] at H
    have c2b0 : decide (60 < (l0.length : Int)) = false := decide_eq_false c2
    have c2b1 : decide (60 < l0.length) = false := decide_eq_false (by omega)
    clear c2
    replace H := Option.bind_eq_some_iff.mp H
    obtain ⟨t172, A50, H⟩ := H
    replace H : (if t172 = true then ((forest_Row.f k l0).bind fun t173 => ((merkhetref11_Row.f k l0).bind fun t176 => ((merkhetref11_Same.f k t173 t176).bind fun t179 => (if t179 = true then ((forest_Depth.f k l0).bind fun t180 => ((merkhetref11_Depth.f k l0).bind fun t181 => (some (t180 == t181)))) else (some false))))) else (some false)) = some r := H
    have A5 := Aside0.mk A50
    clear A50
    by_cases c6 : t172 = true
    · subst c6
      have H1 : ((forest_Row.f k l0).bind fun t173 => ((merkhetref11_Row.f k l0).bind fun t176 => ((merkhetref11_Same.f k t173 t176).bind fun t179 => (if t179 = true then ((forest_Depth.f k l0).bind fun t180 => ((merkhetref11_Depth.f k l0).bind fun t181 => (some (t180 == t181)))) else (some false))))) = some r := by rw [if_pos rfl] at H; exact H
      clear H
      have H := H1
      clear H1
      replace H := Option.bind_eq_some_iff.mp H
      obtain ⟨t173, A70, H⟩ := H
      replace H : ((merkhetref11_Row.f k l0).bind fun t176 => ((merkhetref11_Same.f k t173 t176).bind fun t179 => (if t179 = true then ((forest_Depth.f k l0).bind fun t180 => ((merkhetref11_Depth.f k l0).bind fun t181 => (some (t180 == t181)))) else (some false)))) = some r := H
      have A7 := Aside0.mk A70
      clear A70
      replace H := Option.bind_eq_some_iff.mp H
      obtain ⟨t176, A80, H⟩ := H
      replace H : ((merkhetref11_Same.f k t173 t176).bind fun t179 => (if t179 = true then ((forest_Depth.f k l0).bind fun t180 => ((merkhetref11_Depth.f k l0).bind fun t181 => (some (t180 == t181)))) else (some false))) = some r := H
      have A8 := Aside0.mk A80
      clear A80
      replace H := Option.bind_eq_some_iff.mp H
      obtain ⟨t179, A90, H⟩ := H
      replace H : (if t179 = true then ((forest_Depth.f k l0).bind fun t180 => ((merkhetref11_Depth.f k l0).bind fun t181 => (some (t180 == t181)))) else (some false)) = some r := H
      have A9 := Aside0.mk A90
      clear A90
      by_cases c10 : t179 = true
      · subst c10
        have H1 : ((forest_Depth.f k l0).bind fun t180 => ((merkhetref11_Depth.f k l0).bind fun t181 => (some (t180 == t181)))) = some r := by rw [if_pos rfl] at H; exact H
        clear H
        have H := H1
        clear H1
        replace H := Option.bind_eq_some_iff.mp H
        obtain ⟨t180, A110, H⟩ := H
        replace H : ((merkhetref11_Depth.f k l0).bind fun t181 => (some (t180 == t181))) = some r := H
        have A11 := Aside0.mk A110
        clear A110
        replace H := Option.bind_eq_some_iff.mp H
        obtain ⟨t181, A120, H⟩ := H
        replace H : (some (t180 == t181)) = some r := H
        have A12 := Aside0.mk A120
        clear A120
        obtain rfl := Option.some.inj H
        go_enter Try.func5, Try.ntmps5
        go_wp2_with (first | ((with_reducible refine gate_callee (f := 19) rfl ?_); refine goesL_ (some 7) rfl rfl Try.func19 (by kernel_rfl) rfl #[] rfl (by (try simp only [List.map_toArray, List.map_cons, List.map_nil]); first | done | rfl | (simp only [List.length_drop, List.length_take]; rfl)) ?_; (with_reducible refine (merkhetlaw11_fixed.calls k  true _ A5.out).mono ?_); rintro e w13 ⟨rfl, hb⟩; refine ⟨_, rfl, ?_⟩; have n0_ := Aside0.mk (below_step (by repeat (first | (with_reducible first | exact HB.out | apply below_alloc | apply pw_below_drewN | apply below_drew1) | exact HB.out)) hb); clear HB; have HB := n0_; clear n0_; (try clear hb); (try clear hb2); (try clear hk); (try clear hi)) | (go_at_call 21; (with_reducible refine (forest_Row.calls k _ _ l0 t173 _ ?side1 ?side2 A7.out).mono ?_); (case side1 => repeat (first | exact (Kd.C_below HR0.out HB.out) | (with_reducible refine Kd.C_alloc ?_ _) | (with_reducible refine Kd.C_drewN ?_ _) | (with_reducible refine Kd.C_drew ?_))); (case side2 => exact HC0.out); rintro e w14 ⟨v174, rfl, ho0, hb⟩; have n0_ := Aside0.mk (Kd.R_lower ho0 (below_size (by repeat (first | (with_reducible first | exact HB.out | apply below_alloc | apply pw_below_drewN | apply below_drew1) | exact HB.out)))); have n1_ := Aside0.mk (below_step (by repeat (first | (with_reducible first | exact HB.out | apply below_alloc | apply pw_below_drewN | apply below_drew1) | exact HB.out)) hb); clear HB; have HO175 := n0_; have HB := n1_; clear n0_ n1_; (try clear hb); (try clear hb2); (try clear hk); (try clear hi); (try clear ho0)) | (go_at_call 22; (with_reducible refine (merkhetref11_Row.calls k _ _ l0 t176 _ ?side1 ?side2 A8.out).mono ?_); (case side1 => repeat (first | exact (Kd.C_below HR0.out HB.out) | (with_reducible refine Kd.C_alloc ?_ _) | (with_reducible refine Kd.C_drewN ?_ _) | (with_reducible refine Kd.C_drew ?_))); (case side2 => exact HC0.out); rintro e w15 ⟨v177, rfl, ho0, hb⟩; have n0_ := Aside0.mk (Kd.R_elder' (by (with_reducible repeat (first | apply Kd.R_alloc | apply Kd.R_drewN | apply Kd.R_drew)); exact HO175.out) (Kd.R_base ho0) hb); have n1_ := Aside0.mk (Kd.R_lower (Kd.R_new' ho0 (Kd.R_lt (by (with_reducible repeat (first | apply Kd.R_alloc | apply Kd.R_drewN | apply Kd.R_drew)); exact HO175.out))) (below_size (by repeat (first | (with_reducible first | exact HB.out | apply below_alloc | apply pw_below_drewN | apply below_drew1) | exact HB.out)))); have n2_ := Aside0.mk (below_step (by repeat (first | (with_reducible first | exact HB.out | apply below_alloc | apply pw_below_drewN | apply below_drew1) | exact HB.out)) hb); clear HO175; clear HB; have HO175 := n0_; have HO178 := n1_; have HB := n2_; clear n0_ n1_ n2_; (try clear hb); (try clear hb2); (try clear hk); (try clear hi); (try clear ho0); obtain ⟨Ao16, co16, eo16⟩ := Kd.R_slice HO175.out; subst eo16; obtain ⟨Ao17, co17, eo17⟩ := Kd.R_slice HO178.out; subst eo17) | (go_at_call 20; (with_reducible refine (merkhetref11_Same.calls k _ _ t173 _ _ t176 true _ ?side1 ?side2 ?side3 ?side4 A9.out).mono ?_); (case side1 => repeat (first | exact (Kd.R_reads' HO175.out).2.2 | (with_reducible refine Kd.C_alloc ?_ _) | (with_reducible refine Kd.C_drewN ?_ _) | (with_reducible refine Kd.C_drew ?_))); (case side2 => exact (Kd.R_reads' HO175.out).2.1); (case side3 => repeat (first | exact (Kd.R_reads' HO178.out).2.2 | (with_reducible refine Kd.C_alloc ?_ _) | (with_reducible refine Kd.C_drewN ?_ _) | (with_reducible refine Kd.C_drew ?_))); (case side4 => exact (Kd.R_reads' HO178.out).2.1); rintro e w' ⟨rfl, ⟨nd, rfl⟩⟩) | (go_at_call 23; (with_reducible refine (forest_Depth.calls k _ _ l0 t180 _ ?side1 ?side2 A11.out).mono ?_); (case side1 => repeat (first | exact (Kd.C_below HR0.out (by repeat (first | (with_reducible first | exact HB.out | apply below_alloc | apply pw_below_drewN | apply below_drew1) | exact HB.out))) | (with_reducible refine Kd.C_alloc ?_ _) | (with_reducible refine Kd.C_drewN ?_ _) | (with_reducible refine Kd.C_drew ?_))); (case side2 => exact HC0.out); rintro e w18 ⟨rfl, hb⟩; have n0_ := Aside0.mk (Kd.R_below (by (with_reducible repeat (first | apply Kd.R_alloc | apply Kd.R_drewN | apply Kd.R_drew)); exact HO175.out) hb); have n1_ := Aside0.mk (Kd.R_below (by (with_reducible repeat (first | apply Kd.R_alloc | apply Kd.R_drewN | apply Kd.R_drew)); exact HO178.out) hb); have n2_ := Aside0.mk (below_step (by repeat (first | (with_reducible first | exact HB.out | apply below_alloc | apply pw_below_drewN | apply below_drew1) | exact HB.out)) hb); clear HO175; clear HO178; clear HB; have HO175 := n0_; have HO178 := n1_; have HB := n2_; clear n0_ n1_ n2_; (try clear hb); (try clear hb2); (try clear hk); (try clear hi)) | (go_at_call 24; (with_reducible refine (merkhetref11_Depth.calls k _ _ l0 t181 _ ?side1 ?side2 A12.out).mono ?_); (case side1 => repeat (first | exact (Kd.C_below HR0.out HB.out) | (with_reducible refine Kd.C_alloc ?_ _) | (with_reducible refine Kd.C_drewN ?_ _) | (with_reducible refine Kd.C_drew ?_))); (case side2 => exact HC0.out); rintro e w19 ⟨rfl, hb⟩; have n0_ := Aside0.mk (Kd.R_below (by (with_reducible repeat (first | apply Kd.R_alloc | apply Kd.R_drewN | apply Kd.R_drew)); exact HO175.out) hb); have n1_ := Aside0.mk (Kd.R_below (by (with_reducible repeat (first | apply Kd.R_alloc | apply Kd.R_drewN | apply Kd.R_drew)); exact HO178.out) hb); have n2_ := Aside0.mk (below_step (by repeat (first | (with_reducible first | exact HB.out | apply below_alloc | apply pw_below_drewN | apply below_drew1) | exact HB.out)) hb); clear HO175; clear HO178; clear HB; have HO175 := n0_; have HO178 := n1_; have HB := n2_; clear n0_ n1_ n2_; (try clear hb); (try clear hb2); (try clear hk); (try clear hi)))
        go_ret
        exact ⟨by first | rfl | (simp [errW_none, errW_some] <;> rfl) | (simp [*, errW_none, errW_some] <;> rfl), by repeat (first | (with_reducible first | exact HB.out | apply below_alloc | apply pw_below_drewN | apply below_drew1) | exact HB.out)⟩
      · replace c10 := Bool.eq_false_iff.mpr c10
        subst c10
        have H1 : (some false) = some r := by rw [if_neg (show ¬ (false = true) by decide)] at H; exact H
        clear H
        have H := H1
        clear H1
        obtain rfl := Option.some.inj H
        go_enter Try.func5, Try.ntmps5
        go_wp2_with (first | ((with_reducible refine gate_callee (f := 19) rfl ?_); refine goesL_ (some 7) rfl rfl Try.func19 (by kernel_rfl) rfl #[] rfl (by (try simp only [List.map_toArray, List.map_cons, List.map_nil]); first | done | rfl | (simp only [List.length_drop, List.length_take]; rfl)) ?_; (with_reducible refine (merkhetlaw11_fixed.calls k  true _ A5.out).mono ?_); rintro e w20 ⟨rfl, hb⟩; refine ⟨_, rfl, ?_⟩; have n0_ := Aside0.mk (below_step (by repeat (first | (with_reducible first | exact HB.out | apply below_alloc | apply pw_below_drewN | apply below_drew1) | exact HB.out)) hb); clear HB; have HB := n0_; clear n0_; (try clear hb); (try clear hb2); (try clear hk); (try clear hi)) | (go_at_call 21; (with_reducible refine (forest_Row.calls k _ _ l0 t173 _ ?side1 ?side2 A7.out).mono ?_); (case side1 => repeat (first | exact (Kd.C_below HR0.out HB.out) | (with_reducible refine Kd.C_alloc ?_ _) | (with_reducible refine Kd.C_drewN ?_ _) | (with_reducible refine Kd.C_drew ?_))); (case side2 => exact HC0.out); rintro e w21 ⟨v174, rfl, ho0, hb⟩; have n0_ := Aside0.mk (Kd.R_lower ho0 (below_size (by repeat (first | (with_reducible first | exact HB.out | apply below_alloc | apply pw_below_drewN | apply below_drew1) | exact HB.out)))); have n1_ := Aside0.mk (below_step (by repeat (first | (with_reducible first | exact HB.out | apply below_alloc | apply pw_below_drewN | apply below_drew1) | exact HB.out)) hb); clear HB; have HO175 := n0_; have HB := n1_; clear n0_ n1_; (try clear hb); (try clear hb2); (try clear hk); (try clear hi); (try clear ho0)) | (go_at_call 22; (with_reducible refine (merkhetref11_Row.calls k _ _ l0 t176 _ ?side1 ?side2 A8.out).mono ?_); (case side1 => repeat (first | exact (Kd.C_below HR0.out HB.out) | (with_reducible refine Kd.C_alloc ?_ _) | (with_reducible refine Kd.C_drewN ?_ _) | (with_reducible refine Kd.C_drew ?_))); (case side2 => exact HC0.out); rintro e w22 ⟨v177, rfl, ho0, hb⟩; have n0_ := Aside0.mk (Kd.R_elder' (by (with_reducible repeat (first | apply Kd.R_alloc | apply Kd.R_drewN | apply Kd.R_drew)); exact HO175.out) (Kd.R_base ho0) hb); have n1_ := Aside0.mk (Kd.R_lower (Kd.R_new' ho0 (Kd.R_lt (by (with_reducible repeat (first | apply Kd.R_alloc | apply Kd.R_drewN | apply Kd.R_drew)); exact HO175.out))) (below_size (by repeat (first | (with_reducible first | exact HB.out | apply below_alloc | apply pw_below_drewN | apply below_drew1) | exact HB.out)))); have n2_ := Aside0.mk (below_step (by repeat (first | (with_reducible first | exact HB.out | apply below_alloc | apply pw_below_drewN | apply below_drew1) | exact HB.out)) hb); clear HO175; clear HB; have HO175 := n0_; have HO178 := n1_; have HB := n2_; clear n0_ n1_ n2_; (try clear hb); (try clear hb2); (try clear hk); (try clear hi); (try clear ho0); obtain ⟨Ao23, co23, eo23⟩ := Kd.R_slice HO175.out; subst eo23; obtain ⟨Ao24, co24, eo24⟩ := Kd.R_slice HO178.out; subst eo24) | (go_at_call 20; (with_reducible refine (merkhetref11_Same.calls k _ _ t173 _ _ t176 false _ ?side1 ?side2 ?side3 ?side4 A9.out).mono ?_); (case side1 => repeat (first | exact (Kd.R_reads' HO175.out).2.2 | (with_reducible refine Kd.C_alloc ?_ _) | (with_reducible refine Kd.C_drewN ?_ _) | (with_reducible refine Kd.C_drew ?_))); (case side2 => exact (Kd.R_reads' HO175.out).2.1); (case side3 => repeat (first | exact (Kd.R_reads' HO178.out).2.2 | (with_reducible refine Kd.C_alloc ?_ _) | (with_reducible refine Kd.C_drewN ?_ _) | (with_reducible refine Kd.C_drew ?_))); (case side4 => exact (Kd.R_reads' HO178.out).2.1); rintro e w' ⟨rfl, ⟨nd, rfl⟩⟩))
        go_ret
        exact ⟨by first | rfl | (simp [errW_none, errW_some] <;> rfl) | (simp [*, errW_none, errW_some] <;> rfl), by repeat (first | (with_reducible first | exact HB.out | apply below_alloc | apply pw_below_drewN | apply below_drew1) | exact HB.out)⟩
    · replace c6 := Bool.eq_false_iff.mpr c6
      subst c6
      have H1 : (some false) = some r := by rw [if_neg (show ¬ (false = true) by decide)] at H; exact H
      clear H
      have H := H1
      clear H1
      obtain rfl := Option.some.inj H
      go_enter Try.func5, Try.ntmps5
      go_wp2_with (first | ((with_reducible refine gate_callee (f := 19) rfl ?_); refine goesL_ (some 7) rfl rfl Try.func19 (by kernel_rfl) rfl #[] rfl (by (try simp only [List.map_toArray, List.map_cons, List.map_nil]); first | done | rfl | (simp only [List.length_drop, List.length_take]; rfl)) ?_; (with_reducible refine (merkhetlaw11_fixed.calls k  false _ A5.out).mono ?_); rintro e w25 ⟨rfl, hb⟩; refine ⟨_, rfl, ?_⟩; have n0_ := Aside0.mk (below_step (by repeat (first | (with_reducible first | exact HB.out | apply below_alloc | apply pw_below_drewN | apply below_drew1) | exact HB.out)) hb); clear HB; have HB := n0_; clear n0_; (try clear hb); (try clear hb2); (try clear hk); (try clear hi)))
      go_ret
      exact ⟨by first | rfl | (simp [errW_none, errW_some] <;> rfl) | (simp [*, errW_none, errW_some] <;> rfl), by repeat (first | (with_reducible first | exact HB.out | apply below_alloc | apply pw_below_drewN | apply below_drew1) | exact HB.out)⟩

/-- THE ONE PURE STATEMENT of merkhetlaw11_ForestRows: yours. -/
def merkhetlaw11_ForestRows.Pure : Prop := ∀ (l0 : List Int), l0.length ≤ maxLen → l0.length * 8 ≤ 140737488351232 → (∀ x ∈ l0, (Lit.int .i64 x).wf = true) → ∃ k, merkhetlaw11_ForestRows.f k l0 = some true
theorem merkhetlaw11_ForestRows.walk (P : merkhetlaw11_ForestRows.Pure) (a0 : Option Addr) (len0 cap0 : Nat) (z0 : List Int) (w : World) (w0 : (a0 = none ∧ len0 = 0 ∧ cap0 = 0 ∧ z0 = []) ∨ ∃ x, a0 = some x ∧ len0 ≤ cap0 ∧ cap0 ≤ maxLen ∧ z0.length = cap0 ∧ (∀ i, i < z0.length → w.cell? (x.add i) = some (.int .i64 (z0.getD i 0))) ∧ ∀ n ∈ z0, (Lit.int .i64 n).wf = true) (y0 : len0 * 8 ≤ 140737488351232) :
    Calls Try.prog 5 #[.slice a0 len0 cap0] w fun e w' => e = .returned (.bool true) ∧ Below w.heap.size w w' := by
  obtain ⟨l0, rfl, hr0, hm0, hw0, hc0⟩ := ReadsInt.ofRowC w0
  obtain ⟨k, h⟩ := P l0 hm0 y0 hw0
  refine (merkhetlaw11_ForestRows.calls k _ _ l0 true w (Kd.C_of_reads (d := (0 : Int)) (h1 := fun _ => rfl) hr0) hc0 h).mono ?_
  rintro e w' ⟨rfl, hd⟩
  exact ⟨rfl, hd⟩

/-! ### merkhetref10_Same: function 16 -/
def merkhetref10_Same.l0 : Nat → List Int → List Int → Int → Option (Bool)
  | 0, _, _, _ => none
  | k + 1, x0, x1, x5 => if x5 < (x0.length : Int) then (if 0 ≤ x5 then (if x5 < (x1.length : Int) then (if (rd x0 x5) = (rd x1 x5) then (merkhetref10_Same.l0 k x0 x1 (wrap64 (x5 + 1))) else (some false)) else (none)) else (none)) else (some true)
def merkhetref10_Same.f (k : Nat) (l0 : List Int) (l1 : List Int) : Option (Bool) := if (l0.length : Int) = (l1.length : Int) then (merkhetref10_Same.l0 k l0 l1 0) else (some false)
theorem merkhetref10_Same.mono_l : ∀ k, (∀ y0 y1 y2, LeO (merkhetref10_Same.l0 k y0 y1 y2) (merkhetref10_Same.l0 (k + 1) y0 y1 y2))
  | 0 => fun _ _ _ r h => by simp [merkhetref10_Same.l0] at h
  | k + 1 => by
    have ih0 := merkhetref10_Same.mono_l k
    · intro y0 y1 y2
      unfold merkhetref10_Same.l0
      repeat' first
      | (with_reducible exact ih0 _ _ _)
      | (with_reducible exact LeO.refl _)
      | (with_reducible exact LeO.none _)
      | (with_reducible refine LeO.ite ?_ ?_)
      | (with_reducible refine LeO.bind ?_ (fun _ => ?_))
      | exact ih0 _ _ _
      | exact LeO.none _
      | refine LeO.ite ?_ ?_
      | refine LeO.bind ?_ (fun _ => ?_)
theorem merkhetref10_Same.mono : ∀ a0 a1 k, LeO (merkhetref10_Same.f k a0 a1) (merkhetref10_Same.f (k + 1) a0 a1) := by
  intro a0 a1 k
  have ih0 := merkhetref10_Same.mono_l k
  unfold merkhetref10_Same.f
  repeat' first
      | (with_reducible exact ih0 _ _ _)
      | (with_reducible exact LeO.refl _)
      | (with_reducible exact LeO.none _)
      | (with_reducible refine LeO.ite ?_ ?_)
      | (with_reducible refine LeO.bind ?_ (fun _ => ?_))
      | exact ih0 _ _ _
      | exact LeO.none _
      | refine LeO.ite ?_ ?_
      | refine LeO.bind ?_ (fun _ => ?_)
set_option maxHeartbeats 8000000 in
set_option maxRecDepth 100000 in
theorem merkhetref10_Same.calls (k : Nat) (A0 : Option Addr) (c0 : Nat) (l0 : List Int) (A1 : Option Addr) (c1 : Nat) (l1 : List Int) (r : Bool) (w : World) (hr0 : Kd.C (Kd.int .i64) w A0 l0.length l0) (hc0 : l0.length ≤ c0) (hr1 : Kd.C (Kd.int .i64) w A1 l1.length l1) (hc1 : l1.length ≤ c1) (h : merkhetref10_Same.f k l0 l1 = some r) :
    Calls Try.prog 16 #[.slice A0 l0.length c0, .slice A1 l1.length c1] w fun e w' => e = .returned (.bool r) ∧ Drawn0 w w' := by
  have HR0 := Aside0.mk hr0
  have HC0 := Aside0.mk hc0
  clear hr0 hc0
  have HR1 := Aside0.mk hr1
  have HC1 := Aside0.mk hc1
  clear hr1 hc1
  have H : (if (l0.length : Int) = (l1.length : Int) then (merkhetref10_Same.l0 k l0 l1 0) else (some false)) = some r := h
  clear h
  by_cases c3 : (l0.length : Int) = (l1.length : Int)
  · rw [if_pos c3] at H
    have c3b0 : ((l0.length : Int) == (l1.length : Int)) = true := beq_iff_eq.mpr c3
    have c3b1 : ((l0.length : Int) != (l1.length : Int)) = false := bne_eq_false_iff_eq.mpr c3
    have c3b2 : (l0.length == l1.length) = true := by first | simpa using c3 | (simp at c3 ⊢; omega)
    clear c3
    have H' := Aside0.mk H
    clear H
    go_enter Try.func16, Try.ntmps16
    go_wp2
    repeat (go_quiet (fail); try go_wp2)
    go_loopg [5] k (fun kq v5 w' => ∃ (x5_1 : Int), v5 = .int .i64 x5_1 ∧ Aside0 (merkhetref10_Same.l0 kq l0 l1 x5_1 = some r) ∧ Aside0 (kq ≤ k) ∧ Drawn0 w w')
    case atStart => exact ⟨(0), (by first | rfl | (simp; done) | (simp [*]; done)), H', ⟨Nat.le_refl _⟩, by repeat (first | exact Drawn0.refl _ | apply Drawn0.step)⟩
    case round =>
      clear H'
      try clear c1
      try clear p2
      try clear c3
      try clear c3b0
      try clear c3b1
      try clear c3b2
      obtain ⟨x5_1, rfl, HA, HK1, ⟨m1, rfl⟩⟩ := hrel
      cases gk with
      | zero => exact absurd HA.out (by simp [merkhetref10_Same.l0])
      | succ k1 =>
        have H := HA.out
        clear HA
        simp only [merkhetref10_Same.l0] at H
        by_cases c4 : x5_1 < (l0.length : Int)
        · rw [if_pos c4] at H
          have c4b0 : decide (x5_1 < (l0.length : Int)) = true := decide_eq_true c4
          clear c4
          by_cases c5 : 0 ≤ x5_1
          · rw [if_pos c5] at H
            have c5b0 : decide (0 ≤ x5_1) = true := decide_eq_true c5
            clear c5
            by_cases c6 : x5_1 < (l1.length : Int)
            · rw [if_pos c6] at H
              have c6b0 : decide (x5_1 < (l1.length : Int)) = true := decide_eq_true c6
              clear c6
              by_cases c7 : (rd l0 x5_1) = (rd l1 x5_1)
              · rw [if_pos c7] at H
                have c7b0 : ((rd l0 x5_1) == (rd l1 x5_1)) = true := beq_iff_eq.mpr c7
                have c7b1 : ((rd l0 x5_1) != (rd l1 x5_1)) = false := bne_eq_false_iff_eq.mpr c7
                clear c7
                have H' := Aside0.mk H
                clear H
                have p182 : 0 ≤ (x5_1 : Int) := of_decide_eq_true (by first | (with_reducible assumption) | assumption)
                have q182 : x5_1 < (l0.length : Int) := of_decide_eq_true (by first | (with_reducible assumption) | assumption)
                obtain ⟨ad182, e182, hx182_0⟩ := Kd.at_int HR0.out x5_1 p182 q182
                cases e182
                replace p182 := eq_true p182
                replace q182 := eq_true q182
                have p183 : 0 ≤ (x5_1 : Int) := of_decide_eq_true (by first | (with_reducible assumption) | assumption)
                have q183 : x5_1 < (l1.length : Int) := of_decide_eq_true (by first | (with_reducible assumption) | assumption)
                obtain ⟨ad183, e183, hx183_0⟩ := Kd.at_int HR1.out x5_1 p183 q183
                cases e183
                replace p183 := eq_true p183
                replace q183 := eq_true q183
                go_wp2
                repeat (go_quiet (fail); try go_wp2)
                go_roundg k1
                case measure => have := HK1.out; omega
                case rel => exact ⟨(wrap64 (x5_1 + 1)), (by first | rfl | (simp; done) | (simp [*]; done)), H', ⟨by have := HK1.out; omega⟩, by repeat (first | exact Drawn0.refl _ | apply Drawn0.step)⟩
              · rw [if_neg c7] at H
                have c7b0 : ((rd l0 x5_1) == (rd l1 x5_1)) = false := beq_eq_false_iff_ne.mpr c7
                have c7b1 : ((rd l0 x5_1) != (rd l1 x5_1)) = true := bne_iff_ne.mpr c7
                obtain rfl := Option.some.inj H
                have p182 : 0 ≤ (x5_1 : Int) := of_decide_eq_true (by first | (with_reducible assumption) | assumption)
                have q182 : x5_1 < (l0.length : Int) := of_decide_eq_true (by first | (with_reducible assumption) | assumption)
                obtain ⟨ad182, e182, hx182_0⟩ := Kd.at_int HR0.out x5_1 p182 q182
                cases e182
                replace p182 := eq_true p182
                replace q182 := eq_true q182
                have p183 : 0 ≤ (x5_1 : Int) := of_decide_eq_true (by first | (with_reducible assumption) | assumption)
                have q183 : x5_1 < (l1.length : Int) := of_decide_eq_true (by first | (with_reducible assumption) | assumption)
                obtain ⟨ad183, e183, hx183_0⟩ := Kd.at_int HR1.out x5_1 p183 q183
                cases e183
                replace p183 := eq_true p183
                replace q183 := eq_true q183
                go_wp2
                repeat (go_quiet (fail); try go_wp2)
                go_ret
                exact ⟨by first | rfl | (simp; done) | (simp [*]; done), by repeat (first | exact Drawn0.refl _ | apply Drawn0.step)⟩
            · rw [if_neg c6] at H
              exact absurd H (by simp)
          · rw [if_neg c5] at H
            exact absurd H (by simp)
        · rw [if_neg c4] at H
          have c4b0 : decide (x5_1 < (l0.length : Int)) = false := decide_eq_false c4
          clear c4
          obtain rfl := Option.some.inj H
          go_wp2
          repeat (go_quiet (fail); try go_wp2)
          go_ret
          exact ⟨by first | rfl | (simp; done) | (simp [*]; done), by repeat (first | exact Drawn0.refl _ | apply Drawn0.step)⟩
  · rw [if_neg c3] at H
    have c3b0 : ((l0.length : Int) == (l1.length : Int)) = false := beq_eq_false_iff_ne.mpr c3
    have c3b1 : ((l0.length : Int) != (l1.length : Int)) = true := bne_iff_ne.mpr c3
    have c3b2 : (l0.length == l1.length) = false := by first | simpa using c3 | (simp at c3 ⊢; omega)
    obtain rfl := Option.some.inj H
    go_enter Try.func16, Try.ntmps16
    go_wp2
    repeat (go_quiet (fail); try go_wp2)
    go_ret
    exact ⟨by first | rfl | (simp; done) | (simp [*]; done), by repeat (first | exact Drawn0.refl _ | apply Drawn0.step)⟩

/-! ### forest_Kids: function 28 -/
def forest_Kids.l0 : Nat → Int → List Int → List Int → Int → Int → Option (List Int)
  | 0, _, _, _, _, _ => none
  | k + 1, x1, x5, x8, x9, x10 => if x10 < x9 then (if 0 ≤ x10 then (if x10 < (x8.length : Int) then (if (rd x8 x10) = x1 then (if x5.length < 17592186044416 then (forest_Kids.l0 k x1 (x5 ++ [x10]) x8 x9 (wrap64 (x10 + 1))) else (none)) else (forest_Kids.l0 k x1 x5 x8 x9 (wrap64 (x10 + 1)))) else (none)) else (none)) else (some x5)
def forest_Kids.f (k : Nat) (l0 : List Int) (a1 : Int) : Option (List Int) := forest_Kids.l0 k a1 ([] : List Int) l0 (l0.length : Int) 0
theorem forest_Kids.mono_l : ∀ k, (∀ y0 y1 y2 y3 y4, LeO (forest_Kids.l0 k y0 y1 y2 y3 y4) (forest_Kids.l0 (k + 1) y0 y1 y2 y3 y4))
  | 0 => fun _ _ _ _ _ r h => by simp [forest_Kids.l0] at h
  | k + 1 => by
    have ih0 := forest_Kids.mono_l k
    · intro y0 y1 y2 y3 y4
      unfold forest_Kids.l0
      repeat' first
      | (with_reducible exact ih0 _ _ _ _ _)
      | (with_reducible exact LeO.refl _)
      | (with_reducible exact LeO.none _)
      | (with_reducible refine LeO.ite ?_ ?_)
      | (with_reducible refine LeO.bind ?_ (fun _ => ?_))
      | exact ih0 _ _ _ _ _
      | exact LeO.none _
      | refine LeO.ite ?_ ?_
      | refine LeO.bind ?_ (fun _ => ?_)
theorem forest_Kids.mono : ∀ a0 a1 k, LeO (forest_Kids.f k a0 a1) (forest_Kids.f (k + 1) a0 a1) := by
  intro a0 a1 k
  have ih0 := forest_Kids.mono_l k
  unfold forest_Kids.f
  repeat' first
      | (with_reducible exact ih0 _ _ _ _ _)
      | (with_reducible exact LeO.refl _)
      | (with_reducible exact LeO.none _)
      | (with_reducible refine LeO.ite ?_ ?_)
      | (with_reducible refine LeO.bind ?_ (fun _ => ?_))
      | exact ih0 _ _ _ _ _
      | exact LeO.none _
      | refine LeO.ite ?_ ?_
      | refine LeO.bind ?_ (fun _ => ?_)
set_option maxHeartbeats 8000000 in
set_option maxRecDepth 100000 in
theorem forest_Kids.calls (k : Nat) (A0 : Option Addr) (c0 : Nat) (l0 : List Int) (a1 : Int) (r : List Int) (w : World) (hr0 : Kd.C (Kd.int .i64) w A0 l0.length l0) (hc0 : l0.length ≤ c0) (h : forest_Kids.f k l0 a1 = some r) :
    Calls Try.prog 28 #[.slice A0 l0.length c0, .int .i64 a1] w fun e w' => ∃ v0_ : Value, e = .returned (v0_) ∧ Kd.R (Kd.int .i64) 3 w' w.heap.size (fun _ => True) v0_ r ∧ Below w.heap.size w w' := by
  have HR0 := Aside0.mk hr0
  have HC0 := Aside0.mk hc0
  clear hr0 hc0
  have HB := Aside0.mk (Below.refl w.heap.size w)
  have H : (forest_Kids.l0 k a1 ([] : List Int) l0 (l0.length : Int) 0) = some r := h
  clear h
  have H' := Aside0.mk H
  clear H
  go_enter Try.func28, Try.ntmps28
  go_wp2
  go_loopg [5, 10] k (fun kq v5 v10 w' => ∃ (x5_1 : List Int) (x10_1 : Int), v10 = .int .i64 x10_1 ∧ Aside0 (forest_Kids.l0 kq a1 x5_1 l0 (l0.length : Int) x10_1 = some r) ∧ Aside0 (kq ≤ k) ∧ Aside0 (Kd.R (Kd.int .i64) 3 w' w.heap.size (fun _ => True) v5 x5_1) ∧ Aside0 (Below w.heap.size w w'))
  case atStart => exact ⟨(([] : List Int)), (0), (by first | rfl | (simp; done) | (simp [*]; done)), H', ⟨Nat.le_refl _⟩, ⟨by first | exact Kd.R_nil _ _ _ _ _ | exact Kd.N_nil _ _ _ _ _ | exact Kd.V_nil _ _ _ _ _ | exact Kd.Q_nil _ _ _ _ _ | exact Kd.S_nil _ _ _ _ _⟩, ⟨by repeat (first | (with_reducible first | exact HB.out | apply below_alloc | apply pw_below_drewN | apply below_drew1) | exact HB.out)⟩⟩
  case round =>
    clear H'
    try clear c2
    try clear p2
    obtain ⟨x5_1, x10_1, rfl, HA, HK1, HO_5, HB⟩ := hrel
    cases gk with
    | zero => exact absurd HA.out (by simp [forest_Kids.l0])
    | succ k1 =>
      have H := HA.out
      clear HA
      simp only [forest_Kids.l0] at H
      by_cases c3 : x10_1 < (l0.length : Int)
      · rw [if_pos c3] at H
        have c3b0 : decide (x10_1 < (l0.length : Int)) = true := decide_eq_true c3
        clear c3
        by_cases c4 : 0 ≤ x10_1
        · rw [if_pos c4] at H
          have c4b0 : decide (0 ≤ x10_1) = true := decide_eq_true c4
          clear c4
          by_cases c5 : x10_1 < (l0.length : Int)
          · rw [if_pos c5] at H
            have c5b0 : decide (x10_1 < (l0.length : Int)) = true := decide_eq_true c5
            clear c5
            by_cases c6 : (rd l0 x10_1) = a1
            · rw [if_pos c6] at H
              have c6b0 : ((rd l0 x10_1) == a1) = true := beq_iff_eq.mpr c6
              have c6b1 : ((rd l0 x10_1) != a1) = false := bne_eq_false_iff_eq.mpr c6
              clear c6
              by_cases c7 : x5_1.length < 17592186044416
              · rw [if_pos c7] at H
                have LMc7 := Aside0.mk c7
                clear c7
                obtain ⟨y185, hy185⟩ : ∃ y_ : List Int, y_ = (x5_1 ++ [x10_1]) := ⟨_, rfl⟩
                replace H : (forest_Kids.l0 k1 a1 y185 l0 (l0.length : Int) (wrap64 (x10_1 + 1))) = some r := by first | (rw [hy185]; with_reducible exact H) | (have H2_ := (Option.bind_some _ _).symm.trans H; rw [hy185]; with_reducible exact H2_) | (have H2_ := (Option.bind_some _ _).symm.trans H; with_reducible exact H2_) | with_reducible exact H | (rw [hy185]; exact H) | exact H
                have Ny185 := Aside0.mk hy185
                clear hy185
                have H' := Aside0.mk H
                clear H
                have p184 : 0 ≤ (x10_1 : Int) := of_decide_eq_true (by first | (with_reducible assumption) | assumption)
                have q184 : x10_1 < (l0.length : Int) := of_decide_eq_true (by first | (with_reducible assumption) | assumption)
                obtain ⟨ad184, e184, hx184_0⟩ := Kd.at_int HR0.out x10_1 p184 q184
                cases e184
                replace hx184_0 := (HB.out.cell (World.block_lt_of_cell? w _ hx184_0)).trans hx184_0
                replace p184 := eq_true p184
                replace q184 := eq_true q184
                go_wp2_with (first | ((with_reducible refine gate_builtin (b := .append) (xs := #[.tmp 18, .tmp 20]) rfl ?_); at_builtin; refine Kd.R_append (Kd.int .i64) (w0 := w) w.heap.size rfl (.tmp 18) (.tmp 20) 25 3 (.int .i64 0) 8 rfl Try.underlying25 info3 rfl (by decide) (by omega) u5 x5_1 x10_1 [.int .i64 x10_1] (fun _ => True) (fun _ => False) rfl rfl ?aP (fun _ hk => hk.elim) ?aF ?aO ?aB ?aS ?aL ?_; (case aP => exact rfl); (case aB => exact (by repeat (first | (with_reducible first | exact HB.out | apply below_alloc | apply pw_below_drewN | apply below_drew1) | exact HB.out))); (case aF => exact (fun _ _ => trivial)); (case aO => exact (by (with_reducible repeat (first | apply Kd.R_alloc | apply Kd.R_drewN | apply Kd.R_drew)); exact HO_5.out)); (case aS => exact (below_size (by repeat (first | (with_reducible first | exact HB.out | apply below_alloc | apply pw_below_drewN | apply below_drew1) | exact HB.out)))); (case aL => have := LMc7.out; omega); intro v186 w8 ho hb hg hat; rw [← Ny185.out] at ho; have n0_ := Aside0.mk (hb); have n1_ := Aside0.mk (ho); clear HB; clear HO_5; have HB := n0_; have HO187 := n1_; clear n0_ n1_; clear ho hb hg hat))
                go_roundg k1
                case measure => have := HK1.out; omega
                case rel => exact ⟨(y185), (wrap64 (x10_1 + 1)), (by first | rfl | (simp; done) | (simp [*]; done)), H', ⟨by have := HK1.out; omega⟩, ⟨by (with_reducible repeat (first | apply Kd.R_alloc | apply Kd.R_drewN | apply Kd.R_drew)); exact HO187.out⟩, ⟨by repeat (first | (with_reducible first | exact HB.out | apply below_alloc | apply pw_below_drewN | apply below_drew1) | exact HB.out)⟩⟩
              · rw [if_neg c7] at H
                exact absurd H (by simp)
            · rw [if_neg c6] at H
              have c6b0 : ((rd l0 x10_1) == a1) = false := beq_eq_false_iff_ne.mpr c6
              have c6b1 : ((rd l0 x10_1) != a1) = true := bne_iff_ne.mpr c6
              have H' := Aside0.mk H
              clear H
              have p184 : 0 ≤ (x10_1 : Int) := of_decide_eq_true (by first | (with_reducible assumption) | assumption)
              have q184 : x10_1 < (l0.length : Int) := of_decide_eq_true (by first | (with_reducible assumption) | assumption)
              obtain ⟨ad184, e184, hx184_0⟩ := Kd.at_int HR0.out x10_1 p184 q184
              cases e184
              replace hx184_0 := (HB.out.cell (World.block_lt_of_cell? w _ hx184_0)).trans hx184_0
              replace p184 := eq_true p184
              replace q184 := eq_true q184
              go_wp2
              go_roundg k1
              case measure => have := HK1.out; omega
              case rel => exact ⟨(x5_1), (wrap64 (x10_1 + 1)), (by first | rfl | (simp; done) | (simp [*]; done)), H', ⟨by have := HK1.out; omega⟩, ⟨by (with_reducible repeat (first | apply Kd.R_alloc | apply Kd.R_drewN | apply Kd.R_drew)); exact HO_5.out⟩, ⟨by repeat (first | (with_reducible first | exact HB.out | apply below_alloc | apply pw_below_drewN | apply below_drew1) | exact HB.out)⟩⟩
          · rw [if_neg c5] at H
            exact absurd H (by simp)
        · rw [if_neg c4] at H
          exact absurd H (by simp)
      · rw [if_neg c3] at H
        have c3b0 : decide (x10_1 < (l0.length : Int)) = false := decide_eq_false c3
        clear c3
        obtain rfl := Option.some.inj H
        go_wp2
        go_ret
        exact ⟨_, by first | rfl | (simp [errW_none, errW_some] <;> rfl) | (simp [*, errW_none, errW_some] <;> rfl), by (with_reducible repeat (first | apply Kd.R_alloc | apply Kd.R_drewN | apply Kd.R_drew)); exact HO_5.out, by repeat (first | (with_reducible first | exact HB.out | apply below_alloc | apply pw_below_drewN | apply below_drew1) | exact HB.out)⟩

/-! ### merkhetlaw11_ForestKids: function 9 -/
def merkhetlaw11_ForestKids.f (k : Nat) (l0 : List Int) (a1 : Int) : Option (Bool) := if (l0.length : Int) > 60 then ((merkhetlaw11_fixed.f k).bind fun t188 => (some t188)) else ((merkhetlaw11_fixed.f k).bind fun t189 => (if t189 = true then ((forest_Kids.f k l0 a1).bind fun t190 => ((merkhetref11_Kids.f k l0 a1).bind fun t193 => ((merkhetref10_Same.f k t190 t193).bind fun t196 => (some t196)))) else (some false)))
theorem merkhetlaw11_ForestKids.mono : ∀ a0 a1 k, LeO (merkhetlaw11_ForestKids.f k a0 a1) (merkhetlaw11_ForestKids.f (k + 1) a0 a1) := by
  intro a0 a1 k
  unfold merkhetlaw11_ForestKids.f
  repeat' first
      | (with_reducible exact forest_Kids.mono _ _ _)
      | (with_reducible exact merkhetlaw11_fixed.mono _)
      | (with_reducible exact merkhetref10_Same.mono _ _ _)
      | (with_reducible exact merkhetref11_Kids.mono _ _ _)
      | (with_reducible exact LeO.refl _)
      | (with_reducible exact LeO.none _)
      | (with_reducible refine LeO.ite ?_ ?_)
      | (with_reducible refine LeO.bind ?_ (fun _ => ?_))
      | exact forest_Kids.mono _ _ _
      | exact merkhetlaw11_fixed.mono _
      | exact merkhetref10_Same.mono _ _ _
      | exact merkhetref11_Kids.mono _ _ _
      | exact LeO.none _
      | refine LeO.ite ?_ ?_
      | refine LeO.bind ?_ (fun _ => ?_)
set_option maxHeartbeats 8000000 in
set_option maxRecDepth 100000 in
theorem merkhetlaw11_ForestKids.calls (k : Nat) (A0 : Option Addr) (c0 : Nat) (l0 : List Int) (a1 : Int) (r : Bool) (w : World) (hr0 : Kd.C (Kd.int .i64) w A0 l0.length l0) (hc0 : l0.length ≤ c0) (h : merkhetlaw11_ForestKids.f k l0 a1 = some r) :
    Calls Try.prog 9 #[.slice A0 l0.length c0, .int .i64 a1] w fun e w' => e = .returned (.bool r) ∧ Below w.heap.size w w' := by
  have HR0 := Aside0.mk hr0
  have HC0 := Aside0.mk hc0
  clear hr0 hc0
  have HB := Aside0.mk (Below.refl w.heap.size w)
  have H : (if (l0.length : Int) > 60 then ((merkhetlaw11_fixed.f k).bind fun t188 => (some t188)) else ((merkhetlaw11_fixed.f k).bind fun t189 => (if t189 = true then ((forest_Kids.f k l0 a1).bind fun t190 => ((merkhetref11_Kids.f k l0 a1).bind fun t193 => ((merkhetref10_Same.f k t190 t193).bind fun t196 => (some t196)))) else (some false)))) = some r := h
  clear h
  by_cases c3 : (l0.length : Int) > 60
  · rw [if_pos c3] at H
    have c3b0 : decide (60 < (l0.length : Int)) = true := decide_eq_true c3
    have c3b1 : decide (60 < l0.length) = true := decide_eq_true (by omega)
    clear c3
    replace H := Option.bind_eq_some_iff.mp H
    obtain ⟨t188, A40, H⟩ := H
    replace H : (some t188) = some r := H
    have A4 := Aside0.mk A40
    clear A40
    obtain rfl := Option.some.inj H
    go_enter Try.func9, Try.ntmps9
    go_wp2_with (first | ((with_reducible refine gate_callee (f := 19) rfl ?_); refine goesL_ (some 8) rfl rfl Try.func19 (by kernel_rfl) rfl #[] rfl (by (try simp only [List.map_toArray, List.map_cons, List.map_nil]); first | done | rfl | (simp only [List.length_drop, List.length_take]; rfl)) ?_; (with_reducible refine (merkhetlaw11_fixed.calls k  t188 _ A4.out).mono ?_); rintro e w5 ⟨rfl, hb⟩; refine ⟨_, rfl, ?_⟩; have n0_ := Aside0.mk (below_step (by repeat (first | (with_reducible first | exact HB.out | apply below_alloc | apply pw_below_drewN | apply below_drew1) | exact HB.out)) hb); clear HB; have HB := n0_; clear n0_; (try clear hb); (try clear hb2); (try clear hk); (try clear hi)))
    go_ret
    exact ⟨by first | rfl | (simp [errW_none, errW_some] <;> rfl) | (simp [*, errW_none, errW_some] <;> rfl), by repeat (first | (with_reducible first | exact HB.out | apply below_alloc | apply pw_below_drewN | apply below_drew1) | exact HB.out)⟩
  · rw [if_neg c3] at H
    have c3b0 : decide (60 < (l0.length : Int)) = false := decide_eq_false c3
    have c3b1 : decide (60 < l0.length) = false := decide_eq_false (by omega)
    clear c3
    replace H := Option.bind_eq_some_iff.mp H
    obtain ⟨t189, A60, H⟩ := H
    replace H : (if t189 = true then ((forest_Kids.f k l0 a1).bind fun t190 => ((merkhetref11_Kids.f k l0 a1).bind fun t193 => ((merkhetref10_Same.f k t190 t193).bind fun t196 => (some t196)))) else (some false)) = some r := H
    have A6 := Aside0.mk A60
    clear A60
    by_cases c7 : t189 = true
    · subst c7
      have H1 : ((forest_Kids.f k l0 a1).bind fun t190 => ((merkhetref11_Kids.f k l0 a1).bind fun t193 => ((merkhetref10_Same.f k t190 t193).bind fun t196 => (some t196)))) = some r := by rw [if_pos rfl] at H; exact H
      clear H
      have H := H1
      clear H1
      replace H := Option.bind_eq_some_iff.mp H
      obtain ⟨t190, A80, H⟩ := H
      replace H : ((merkhetref11_Kids.f k l0 a1).bind fun t193 => ((merkhetref10_Same.f k t190 t193).bind fun t196 => (some t196))) = some r := H
      have A8 := Aside0.mk A80
      clear A80
      replace H := Option.bind_eq_some_iff.mp H
      obtain ⟨t193, A90, H⟩ := H
      replace H : ((merkhetref10_Same.f k t190 t193).bind fun t196 => (some t196)) = some r := H
      have A9 := Aside0.mk A90
      clear A90
      replace H := Option.bind_eq_some_iff.mp H
      obtain ⟨t196, A100, H⟩ := H
      replace H : (some t196) = some r := H
      have A10 := Aside0.mk A100
      clear A100
      obtain rfl := Option.some.inj H
      go_enter Try.func9, Try.ntmps9
      go_wp2_with (first | ((with_reducible refine gate_callee (f := 19) rfl ?_); refine goesL_ (some 9) rfl rfl Try.func19 (by kernel_rfl) rfl #[] rfl (by (try simp only [List.map_toArray, List.map_cons, List.map_nil]); first | done | rfl | (simp only [List.length_drop, List.length_take]; rfl)) ?_; (with_reducible refine (merkhetlaw11_fixed.calls k  true _ A6.out).mono ?_); rintro e w11 ⟨rfl, hb⟩; refine ⟨_, rfl, ?_⟩; have n0_ := Aside0.mk (below_step (by repeat (first | (with_reducible first | exact HB.out | apply below_alloc | apply pw_below_drewN | apply below_drew1) | exact HB.out)) hb); clear HB; have HB := n0_; clear n0_; (try clear hb); (try clear hb2); (try clear hk); (try clear hi)) | (go_at_call 28; (with_reducible refine (forest_Kids.calls k _ _ l0 a1 t190 _ ?side1 ?side2 A8.out).mono ?_); (case side1 => repeat (first | exact (Kd.C_below HR0.out HB.out) | (with_reducible refine Kd.C_alloc ?_ _) | (with_reducible refine Kd.C_drewN ?_ _) | (with_reducible refine Kd.C_drew ?_))); (case side2 => exact HC0.out); rintro e w12 ⟨v191, rfl, ho0, hb⟩; have n0_ := Aside0.mk (Kd.R_lower ho0 (below_size (by repeat (first | (with_reducible first | exact HB.out | apply below_alloc | apply pw_below_drewN | apply below_drew1) | exact HB.out)))); have n1_ := Aside0.mk (below_step (by repeat (first | (with_reducible first | exact HB.out | apply below_alloc | apply pw_below_drewN | apply below_drew1) | exact HB.out)) hb); clear HB; have HO192 := n0_; have HB := n1_; clear n0_ n1_; (try clear hb); (try clear hb2); (try clear hk); (try clear hi); (try clear ho0)) | (go_at_call 29; (with_reducible refine (merkhetref11_Kids.calls k _ _ l0 a1 t193 _ ?side1 ?side2 A9.out).mono ?_); (case side1 => repeat (first | exact (Kd.C_below HR0.out HB.out) | (with_reducible refine Kd.C_alloc ?_ _) | (with_reducible refine Kd.C_drewN ?_ _) | (with_reducible refine Kd.C_drew ?_))); (case side2 => exact HC0.out); rintro e w13 ⟨v194, rfl, ho0, hb⟩; have n0_ := Aside0.mk (Kd.R_elder' (by (with_reducible repeat (first | apply Kd.R_alloc | apply Kd.R_drewN | apply Kd.R_drew)); exact HO192.out) (Kd.R_base ho0) hb); have n1_ := Aside0.mk (Kd.R_lower (Kd.R_new' ho0 (Kd.R_lt (by (with_reducible repeat (first | apply Kd.R_alloc | apply Kd.R_drewN | apply Kd.R_drew)); exact HO192.out))) (below_size (by repeat (first | (with_reducible first | exact HB.out | apply below_alloc | apply pw_below_drewN | apply below_drew1) | exact HB.out)))); have n2_ := Aside0.mk (below_step (by repeat (first | (with_reducible first | exact HB.out | apply below_alloc | apply pw_below_drewN | apply below_drew1) | exact HB.out)) hb); clear HO192; clear HB; have HO192 := n0_; have HO195 := n1_; have HB := n2_; clear n0_ n1_ n2_; (try clear hb); (try clear hb2); (try clear hk); (try clear hi); (try clear ho0); obtain ⟨Ao14, co14, eo14⟩ := Kd.R_slice HO192.out; subst eo14; obtain ⟨Ao15, co15, eo15⟩ := Kd.R_slice HO195.out; subst eo15) | (go_at_call 16; (with_reducible refine (merkhetref10_Same.calls k _ _ t190 _ _ t193 t196 _ ?side1 ?side2 ?side3 ?side4 A10.out).mono ?_); (case side1 => repeat (first | exact (Kd.R_reads' HO192.out).2.2 | (with_reducible refine Kd.C_alloc ?_ _) | (with_reducible refine Kd.C_drewN ?_ _) | (with_reducible refine Kd.C_drew ?_))); (case side2 => exact (Kd.R_reads' HO192.out).2.1); (case side3 => repeat (first | exact (Kd.R_reads' HO195.out).2.2 | (with_reducible refine Kd.C_alloc ?_ _) | (with_reducible refine Kd.C_drewN ?_ _) | (with_reducible refine Kd.C_drew ?_))); (case side4 => exact (Kd.R_reads' HO195.out).2.1); rintro e w' ⟨rfl, ⟨nd, rfl⟩⟩))
      go_ret
      exact ⟨by first | rfl | (simp [errW_none, errW_some] <;> rfl) | (simp [*, errW_none, errW_some] <;> rfl), by repeat (first | (with_reducible first | exact HB.out | apply below_alloc | apply pw_below_drewN | apply below_drew1) | exact HB.out)⟩
    · replace c7 := Bool.eq_false_iff.mpr c7
      subst c7
      have H1 : (some false) = some r := by rw [if_neg (show ¬ (false = true) by decide)] at H; exact H
      clear H
      have H := H1
      clear H1
      obtain rfl := Option.some.inj H
      go_enter Try.func9, Try.ntmps9
      go_wp2_with (first | ((with_reducible refine gate_callee (f := 19) rfl ?_); refine goesL_ (some 9) rfl rfl Try.func19 (by kernel_rfl) rfl #[] rfl (by (try simp only [List.map_toArray, List.map_cons, List.map_nil]); first | done | rfl | (simp only [List.length_drop, List.length_take]; rfl)) ?_; (with_reducible refine (merkhetlaw11_fixed.calls k  false _ A6.out).mono ?_); rintro e w16 ⟨rfl, hb⟩; refine ⟨_, rfl, ?_⟩; have n0_ := Aside0.mk (below_step (by repeat (first | (with_reducible first | exact HB.out | apply below_alloc | apply pw_below_drewN | apply below_drew1) | exact HB.out)) hb); clear HB; have HB := n0_; clear n0_; (try clear hb); (try clear hb2); (try clear hk); (try clear hi)))
      go_ret
      exact ⟨by first | rfl | (simp [errW_none, errW_some] <;> rfl) | (simp [*, errW_none, errW_some] <;> rfl), by repeat (first | (with_reducible first | exact HB.out | apply below_alloc | apply pw_below_drewN | apply below_drew1) | exact HB.out)⟩

/-- THE ONE PURE STATEMENT of merkhetlaw11_ForestKids: yours. -/
def merkhetlaw11_ForestKids.Pure : Prop := ∀ (l0 : List Int) (a1 : Int), l0.length ≤ maxLen → l0.length * 8 ≤ 140737488351232 → (∀ x ∈ l0, (Lit.int .i64 x).wf = true) → (Lit.int .i64 a1).wf = true → ∃ k, merkhetlaw11_ForestKids.f k l0 a1 = some true
theorem merkhetlaw11_ForestKids.walk (P : merkhetlaw11_ForestKids.Pure) (a0 : Option Addr) (len0 cap0 : Nat) (z0 : List Int) (a1 : Int) (w : World) (w0 : (a0 = none ∧ len0 = 0 ∧ cap0 = 0 ∧ z0 = []) ∨ ∃ x, a0 = some x ∧ len0 ≤ cap0 ∧ cap0 ≤ maxLen ∧ z0.length = cap0 ∧ (∀ i, i < z0.length → w.cell? (x.add i) = some (.int .i64 (z0.getD i 0))) ∧ ∀ n ∈ z0, (Lit.int .i64 n).wf = true) (y0 : len0 * 8 ≤ 140737488351232) (w1 : (Lit.int .i64 a1).wf = true) :
    Calls Try.prog 9 #[.slice a0 len0 cap0, .int .i64 a1] w fun e w' => e = .returned (.bool true) ∧ Below w.heap.size w w' := by
  obtain ⟨l0, rfl, hr0, hm0, hw0, hc0⟩ := ReadsInt.ofRowC w0
  obtain ⟨k, h⟩ := P l0 a1 hm0 y0 hw0 w1
  refine (merkhetlaw11_ForestKids.calls k _ _ l0 a1 true w (Kd.C_of_reads (d := (0 : Int)) (h1 := fun _ => rfl) hr0) hc0 h).mono ?_
  rintro e w' ⟨rfl, hd⟩
  exact ⟨rfl, hd⟩

/-! ### parent_Of: function 17 -/
def parent_Of_wf (l0 : List S37) : Bool := l0.all fun s => (Lit.int .u64 s.f1).wf && (Lit.int .u64 s.f2).wf
def parent_Of_par (l0 : List S37) : List Int := Go.Proofs.Ytcgjplolehhpjaa.H.par0 (l0.map fun s => s.f1) (l0.map fun s => s.f2)
def parent_Of.f (k : Nat) (l0 : List S37) : Option (List Int) :=
  if l0.length ≤ 1000000 then (if parent_Of_wf l0 = true then (Go.Proofs.Ytcgjplolehhpjaa.H.cyclesF k (parent_Of_par l0)).bind fun fs => (Go.Proofs.Ytcgjplolehhpjaa.H.leastsF k (parent_Of_par l0) fs).bind fun ls => Go.Proofs.Ytcgjplolehhpjaa.H.clearF (parent_Of_par l0) ls else none) else none
theorem parent_Of.mono : ∀ a0 k, LeO (parent_Of.f k a0) (parent_Of.f (k + 1) a0) := by
  intro a0 k
  unfold parent_Of.f
  exact LeO.ite (LeO.ite (LeO.bind (Go.Proofs.Ytcgjplolehhpjaa.H.cyclesF_mono k _) (fun fs => LeO.bind (Go.Proofs.Ytcgjplolehhpjaa.H.leastsF_mono k _ fs) (fun ls => LeO.refl _))) (LeO.refl _)) (LeO.refl _)
theorem parent_Of_par_length (l0 : List S37) : (parent_Of_par l0).length = l0.length := by simp [parent_Of_par, Go.Proofs.Ytcgjplolehhpjaa.H.par0]
structure parent_Of_St (w : World) (G0 B8 B13 : Nat) (k : Nat) (p : List Int) (G : Nat) (fs : List Int) (W : World) : Prop where
  below : Below w.heap.size w W
  far : w.heap.size ≤ G0
  lt1 : G0 < B8
  lt2 : B8 < B13
  lt3 : B13 < G
  row : Go.Proofs.Ytcgjplolehhpjaa.H.rowI W G0 3 p
  out : W.heap[B8]? = some (.cells #[.slice (some ⟨G0, 0, none⟩) p.length p.length] 25 (0, 0))
  los : ∃ v ls, Go.Proofs.Ytcgjplolehhpjaa.H.leastsF k p fs = some ls ∧ W.heap[B13]? = some (.cells #[v] 25 (0, 0)) ∧ Kd.R (Kd.int .i64) 3 W (B13 + 1) (fun q => q ≠ G) v ls
theorem parent_Of_St_grown {w : World} {G0 B8 B13 k : Nat} {p : List Int} {G : Nat} {fs : List Int} {W W' : World} (h : parent_Of_St w G0 B8 B13 k p G fs W) (hg : W.grownBy W' (some G)) : parent_Of_St w G0 B8 B13 k p G fs W' := by
  obtain ⟨v, ls, h1, h2, h3⟩ := h.los
  have l1 := h.far; have l2 := h.lt1; have l3 := h.lt2; have l4 := h.lt3
  exact ⟨pw_below_grown h.below (some G) h.below.size hg (fun q e => by have := Option.some.inj e; omega), l1, l2, l3, l4, Go.Proofs.Ytcgjplolehhpjaa.H.rowI_grown h.row hg (by simp; omega), blk_grown h.out hg (by simp; omega), v, ls, h1, blk_grown h2 hg (by simp; omega), Kd.R_grown h3 hg (fun q hq => by simpa using hq)⟩
set_option maxHeartbeats 8000000 in
set_option maxRecDepth 100000 in
theorem parent_Of_found (w : World) (G0 B8 B13 : Nat) (k : Nat) (p : List Int) (hp : p.length ≤ 1000000) (G : Nat) (fs' : List Int) (a x : Int) (ls' : List Int) (hls : ls'.length ≤ 1000000) (hl1 : Go.Proofs.Ytcgjplolehhpjaa.H.leastsF k p fs' = some ls') (hx : Go.Proofs.Ytcgjplolehhpjaa.H.leastA k p a = some x) (hl2 : Go.Proofs.Ytcgjplolehhpjaa.H.leastsF k p (fs' ++ [a]) = some (ls' ++ [x])) (W : World) (hs : parent_Of_St w G0 B8 B13 k p G fs' W) (hG : G < W.heap.size) :
    Calls Try.prog 39 #[.int .i64 a, .pointer (some ⟨B8, 0, none⟩), .pointer (some ⟨B13, 0, none⟩)] W fun e w' => e = .returned (.tuple #[]) ∧ parent_Of_St w G0 B8 B13 k p G (fs' ++ [a]) w' ∧ W.heap.size ≤ w'.heap.size ∧ w'.heap[G]? = W.heap[G]? := by
  obtain ⟨v, ls0, h1, h2, h3⟩ := hs.los
  obtain rfl : ls0 = ls' := Option.some.inj (h1.symm.trans hl1)
  obtain ⟨Av, cv, rfl⟩ := Kd.R_slice h3
  have hc8 : W.cell? ⟨B8, 0, none⟩ = some (.slice (some ⟨G0, 0, none⟩) p.length p.length) := (blk_cell hs.out 0).trans rfl
  have hc13 : W.cell? ⟨B13, 0, none⟩ = some (.slice Av ls0.length cv) := (blk_cell h2 0).trans rfl
  have hf13 := blk_frozen h2 0
  unfold Go.Proofs.Ytcgjplolehhpjaa.H.leastA at hx
  by_cases ha0 : 0 ≤ a
  case neg => rw [if_neg ha0] at hx; cases hx
  rw [if_pos ha0] at hx
  by_cases ha1 : a < (p.length : Int)
  case neg => rw [if_neg ha1] at hx; cases hx
  rw [if_pos ha1] at hx
  have hrow := Go.Proofs.Ytcgjplolehhpjaa.H.rowI_rd hs.row a ha0 ha1
  have HS := Aside0.mk hs
  have H2 := Aside0.mk h2
  have H3 := Aside0.mk h3
  have HX := Aside0.mk hx
  have HL2 := Aside0.mk hl2
  have HG := Aside0.mk hG
  have HLS := Aside0.mk hls
  have HB13 := Aside0.mk (blk_lt h2)
  clear h1 h2 h3 hs hx hl1 hl2 hls hG
  go_enter Try.func39, Try.ntmps39
  go_wp2
  go_loopg [4, 5] k (fun kq v4 v5 wr => ∃ (lst kk : Int), v4 = .int .i64 lst ∧ v5 = .int .i64 kk ∧ W = wr ∧ Aside0 (Go.Proofs.Ytcgjplolehhpjaa.H.leastF p a kq kk lst = some x))
  case atStart => exact ⟨a, _, rfl, rfl, rfl, HX⟩
  case round =>
    obtain ⟨lst, kk, rfl, rfl, rfl, HQ⟩ := hrel
    cases gk with
    | zero => exact absurd HQ.out (by simp [Go.Proofs.Ytcgjplolehhpjaa.H.leastF])
    | succ kq =>
      have hq := HQ.out
      unfold Go.Proofs.Ytcgjplolehhpjaa.H.leastF at hq
      clear HQ
      by_cases c1 : kk = a
      · rw [if_pos c1] at hq
        subst c1
        obtain rfl := Option.some.inj hq
        clear hq
        have hne : ∀ q, some q = Value.ownBlock (.slice Av ls0.length cv) → B13 + 1 ≤ q ∧ q ≠ G := fun q e => ⟨Kd.R_base H3.out q e.symm, H3.out.1 q e.symm⟩
        have HNE := Aside0.mk hne
        clear hne
        go_wp2_with (at_builtin; refine Kd.R_append (Kd.int .i64) (w0 := W) (W := W) (B13 + 1) rfl _ _ 25 3 (.int .i64 0) 8 rfl Try.underlying25 info3 rfl (by decide) (by decide) (.slice Av ls0.length cv) ls0 lst [.int .i64 lst] (fun q => q ≠ G) (fun _ => False) rfl rfl (show Kd.M (Kd.int .i64) _ _ _ lst [.int .i64 lst] from rfl) (fun q hq => hq.elim) (fun q hq => by have := HG.out; omega) H3.out (Below.refl _ _) HB13.out (by have := HLS.out; omega) ?_; intro v1 w1 hr1 hb1 hg1 hat1; obtain ⟨A1, c1, rfl⟩ := Kd.R_slice hr1; have H2n := Aside0.mk (blk_grown H2.out hg1 (fun e => by have := (HNE.out B13 e).1; omega)); have hcn : w1.cell? ⟨B13, 0, none⟩ = some (.slice Av ls0.length cv) := (blk_cell H2n.out 0).trans rfl; have hfn := blk_frozen H2n.out 0; have HR1 := Aside0.mk hr1; have HB1 := Aside0.mk hb1; have HG1 := Aside0.mk hg1; have HAT := Aside0.mk hat1; clear hr1 hb1 hg1 hat1)
        go_end0
        have l1 := HS.out.far; have l2 := HS.out.lt1; have l3 := HS.out.lt2; have l4 := HS.out.lt3
        refine ⟨rfl, ⟨below_set (pw_below_grown HS.out.below _ HS.out.below.size HG1.out (fun q e => by have := (HNE.out q e.symm).1; omega)) (by omega), l1, l2, l3, l4, ⟨blk_far (blk_grown HS.out.row.blk HG1.out (fun e => by have := (HNE.out G0 e).1; omega)) (by simp; omega) _⟩, blk_far (blk_grown HS.out.out HG1.out (fun e => by have := (HNE.out B8 e).1; omega)) (by simp; omega) _, _, _, HL2.out, blk_put H2n.out 0 _ rfl, ?_⟩, ?_, ?_⟩
        · have h_ := Kd.R_mono (Kd.R_far (Kd.R_bound HR1.out) (p := ⟨B13, 0, none⟩) (fun q hq => by have := hq.2.1; show q ≠ B13; omega) (.slice A1 (ls0.length + 1) c1)) (fun q hq => hq.1)
          rw [show (ls0 ++ [lst]).length = ls0.length + 1 by simp] at h_
          exact h_
        · have := HG1.out.size; simpa using this
        · rw [Below.heap_setCell w1 _ _ G (by simp; omega)]
          exact HG1.out.block G HG.out (fun e => (HNE.out G e).2 rfl)
      · rw [if_neg c1] at hq
        by_cases c2 : 0 ≤ kk
        case neg => rw [if_neg c2] at hq; cases hq
        rw [if_pos c2] at hq
        by_cases c3 : kk < (p.length : Int)
        case neg => rw [if_neg c3] at hq; cases hq
        rw [if_pos c3] at hq
        have hrow2 := Go.Proofs.Ytcgjplolehhpjaa.H.rowI_rd HS.out.row kk c2 c3
        have c1b : (kk != a) = true := bne_iff_ne.mpr c1
        by_cases c4 : kk < lst
        · rw [show mn lst kk = kk from if_pos c4] at hq
          have HQ := Aside0.mk hq
          clear hq
          go_wp2
          go_roundg kq
          case measure => omega
          case rel => exact ⟨_, _, rfl, rfl, rfl, HQ⟩
        · rw [show mn lst kk = lst from if_neg c4] at hq
          have HQ := Aside0.mk hq
          clear hq
          go_wp2
          go_roundg kq
          case measure => omega
          case rel => exact ⟨_, _, rfl, rfl, rfl, HQ⟩
theorem parent_Of_law : Go.Maps.Keyed Try.prog 35 := Go.Maps.int_keyed Try.underlying35
theorem parent_Of_zero (w : World) : (zeroValue 3).run Try.prog w = .ok (.int .i64 0) w := by kernel_rfl
theorem parent_Of_take (l : List Int) (i : Nat) (h : i < l.length) : l.take (i + 1) = l.take i ++ [l.getD i 0] := by
  rw [List.take_succ_eq_append_getElem h, List.getD_eq_getElem?_getD, List.getElem?_eq_getElem h]; rfl
theorem parent_Of_fill (l : List Int) (n i : Nat) (hn : l.length = n) (h : i < n) : (l.take i ++ List.replicate (n - i) 0).set i (l.getD i 0) = l.take (i + 1) ++ List.replicate (n - (i + 1)) 0 := by
  have h1 : (l.take i).length = i := by rw [List.length_take]; omega
  rw [List.set_append_right _ _ (by omega), h1, Nat.sub_self, parent_Of_take l i (by omega)]
  obtain ⟨m, hm⟩ : ∃ m, n - i = m + 1 := ⟨n - i - 1, by omega⟩
  rw [hm, show n - (i + 1) = m by omega, List.replicate_succ, List.set_cons_zero, List.append_assoc]
  rfl
set_option maxHeartbeats 8000000 in
set_option maxRecDepth 100000 in
theorem parent_Of.calls (k : Nat) (A0 : Option Addr) (c0 : Nat) (l0 : List S37) (r : List Int) (w : World) (hr0 : Kd.C k37 w A0 l0.length l0) (hc0 : l0.length ≤ c0) (h : parent_Of.f k l0 = some r) :
    Calls Try.prog 17 #[.slice A0 l0.length c0] w fun e w' => ∃ v0_ : Value, e = .returned (v0_) ∧ Kd.R (Kd.int .i64) 3 w' w.heap.size (fun _ => True) v0_ r ∧ Below w.heap.size w w' := by
  unfold parent_Of.f at h
  by_cases hn : l0.length ≤ 1000000
  case neg => rw [if_neg hn] at h; cases h
  rw [if_pos hn] at h
  by_cases hwf : parent_Of_wf l0 = true
  case neg => rw [if_neg hwf] at h; cases h
  rw [if_pos hwf] at h
  obtain ⟨fs, hfs, h⟩ := Option.bind_eq_some_iff.mp h
  obtain ⟨ls, hls, h⟩ := Option.bind_eq_some_iff.mp h
  have hlen := parent_Of_par_length l0
  have hfl := Go.Proofs.Ytcgjplolehhpjaa.H.cyclesF_len hfs
  obtain ⟨p, hp⟩ : ∃ p, p = parent_Of_par l0 := ⟨_, rfl⟩
  rw [← hp] at hfs hls h hlen hfl
  obtain ⟨ids, hids⟩ : ∃ ids : List Int, ids = l0.map fun s => s.f1 := ⟨_, rfl⟩
  have hidl : ids.length = l0.length := by rw [hids]; simp
  have hpat : ∀ i (hi : i < l0.length), p.getD i 0 = if l0[i].f2 = 0 then -1 else Go.Proofs.Ytcgjplolehhpjaa.H.firstI ids l0[i].f2 := fun i hi => by
    rw [hp, List.getD_eq_getElem?_getD, List.getElem?_eq_getElem (by rw [parent_Of_par_length]; exact hi)]
    simp [parent_Of_par, Go.Proofs.Ytcgjplolehhpjaa.H.par0, hids]
  have hiat : ∀ i (hi : i < l0.length), ids.getD i 0 = l0[i].f1 := fun i hi => by
    rw [hids, List.getD_eq_getElem?_getD, List.getElem?_eq_getElem (by simpa using hi)]; simp
  have hwat : ∀ i (hi : i < l0.length), (Lit.int .u64 l0[i].f1).wf = true ∧ (Lit.int .u64 l0[i].f2).wf = true := fun i hi => by
    have := List.all_eq_true.1 hwf _ (List.getElem_mem hi)
    simpa using this
  have HR := Aside0.mk hr0
  have HB := Aside0.mk (Below.refl w.heap.size w)
  have HFS := Aside0.mk hfs
  have HLS := Aside0.mk hls
  have HCL := Aside0.mk h
  have HLEN := Aside0.mk hlen
  have HFL := Aside0.mk hfl
  have HIDL := Aside0.mk hidl
  have HPAT := Aside0.mk hpat
  have HIAT := Aside0.mk hiat
  have HWAT := Aside0.mk hwat
  clear h hfs hls hr0 hp hids hidl hpat hiat hwat hwf hlen hfl
  have hmm := @run_makeMap Try.prog
  have hmk := print_make (P := Try.prog) 25 3 .i64 8 Try.underlying25 info3 (by decide) l0.length (by omega)
  have hmf : ∀ (fn : Fn) (first cap : Array Value) (w : World), (Instr.makeFunc fn first cap).run Try.prog w = .ok (.func fn first cap) w := fun _ _ _ _ => rfl
  have hu_ := Try.underlying37
  go_enter Try.func17, Try.ntmps17
  go_wp2
  go_loopg [19] l0.length (fun d v19 wr => ∃ (i : Nat) (D : DataW Unit), i + d = l0.length ∧ v19 = .int .i64 i ∧ Aside0 (Below w.heap.size w wr) ∧ Aside0 (Go.Proofs.Ytcgjplolehhpjaa.H.MapD .u64 (ids.take i) D) ∧ Aside0 (wr.ownsMap Try.prog 35 (plainElem Try.prog 3) w.heap.size i D))
  case atStart => exact ⟨0, .map [], by omega, rfl, ⟨(Below.refl _ _).alloc (Nat.le_refl _) _⟩, ⟨Go.Proofs.Ytcgjplolehhpjaa.H.MapD_nil .u64⟩, ⟨World.ownsMap_made _ _ _ _⟩⟩
  case round =>
    obtain ⟨i, D, hi, rfl, HBr, HMD, HOM⟩ := hrel
    by_cases hlt : i < l0.length
    · have hltz : (i : Int) < (l0.length : Int) := by omega
      obtain ⟨ad, e, hx0, hx1, hx2, hx3, hx4, hx5, hx6, hx7⟩ := at_T37 HR.out (i : Int) (by omega) hltz
      cases e
      replace hx0 := (HBr.out.cell (World.block_lt_of_cell? w _ hx0)).trans hx0; simp only [Int.toNat_natCast] at hx0; replace hx1 := (HBr.out.cell (World.block_lt_of_cell? w _ hx1)).trans hx1; simp only [Int.toNat_natCast] at hx1; replace hx2 := (HBr.out.cell (World.block_lt_of_cell? w _ hx2)).trans hx2; simp only [Int.toNat_natCast] at hx2; replace hx3 := (HBr.out.cell (World.block_lt_of_cell? w _ hx3)).trans hx3; simp only [Int.toNat_natCast] at hx3; replace hx4 := (HBr.out.cell (World.block_lt_of_cell? w _ hx4)).trans hx4; simp only [Int.toNat_natCast] at hx4; replace hx5 := (HBr.out.cell (World.block_lt_of_cell? w _ hx5)).trans hx5; simp only [Int.toNat_natCast] at hx5; replace hx6 := (HBr.out.cell (World.block_lt_of_cell? w _ hx6)).trans hx6; simp only [Int.toNat_natCast] at hx6; replace hx7 := (HBr.out.cell (World.block_lt_of_cell? w _ hx7)).trans hx7; simp only [Int.toNat_natCast] at hx7
      have hy : rd_T37 l0 (i : Int) = l0[i] := by show l0.getD _ _ = _; simp [List.getD_eq_getElem?_getD, List.getElem?_eq_getElem hlt]
      rw [hy] at hx0 hx1 hx2 hx3 hx4 hx5 hx6 hx7
      have hw1 := (HWAT.out i hlt).1
      have HTK := Aside0.mk (show ids.take (i + 1) = ids.take i ++ [l0[i].f1] by rw [parent_Of_take ids i (by rw [HIDL.out]; exact hlt), HIAT.out i hlt])
      have HTL := Aside0.mk (show (ids.take i).length = i by rw [List.length_take, HIDL.out]; omega)
      clear hy
      generalize l0[i] = s at hx0 hx1 hx2 hx3 hx4 hx5 hx6 hx7 hw1 HTK
      have hkey : keyOf Try.prog 35 (.int .u64 s.f1) = some (.int .u64 s.f1) := Go.Maps.keyOf_int_mk Try.underlying35 hw1
      by_cases hm : s.f1 ∈ ids.take i
      · have hhas : Go.Maps.has D (.int .u64 s.f1) = true := by rw [HMD.out.has]; exact decide_eq_true hm
        have HM := Aside0.mk hm
        clear hm
        go_wp2_with (at_lookup; refine wpList_lookup_own_ok_int _ rfl _ _ 51 rfl 35 3 .i64 parent_Of_law Try.underlying51 Try.underlying3 (parent_Of_zero _) w.heap.size i _ rfl (HOM.out.alloc _) _ _ rfl hkey ?_; intro c hat hwc)
        go_roundg (gk - 1)
        case measure => omega
        case rel => exact ⟨i + 1, D, by omega, by go_num, ⟨below_alloc HBr.out _⟩, ⟨by rw [HTK.out]; exact Go.Proofs.Ytcgjplolehhpjaa.H.MapD_old HMD.out HM.out⟩, ⟨(HOM.out.alloc _).mono (by omega)⟩⟩
      · have hhas : Go.Maps.has D (.int .u64 s.f1) = false := by rw [HMD.out.has]; exact decide_eq_false hm
        have HM := Aside0.mk hm
        clear hm
        have hwi : (Lit.int .i64 (i : Int)).wf = true := Go.WalkArith.wf_i64 ⟨by omega, by omega⟩
        go_wp2_with (first
          | (at_lookup; refine wpList_lookup_own_ok_int _ rfl _ _ 51 rfl 35 3 .i64 parent_Of_law Try.underlying51 Try.underlying3 (parent_Of_zero _) w.heap.size i _ rfl (HOM.out.alloc _) _ _ rfl hkey ?_; intro c hat hwc)
          | (at_mapUpdate; refine wpList_mapUpdate_own _ rfl _ _ _ 51 rfl 35 3 parent_Of_law Try.underlying51 _ w.heap.size i _ rfl (HOM.out.alloc _) (by unfold maxLen; omega) _ _ _ rfl rfl hkey _ [] (plainElem_int Try.underlying3 hwi) ?_; intro w1 hown1 hgrow1; have HG1 := Aside0.mk hgrow1; have HO1 := Aside0.mk hown1; clear hgrow1 hown1))
        go_roundg (gk - 1)
        case measure => omega
        case rel => exact ⟨i + 1, _, by omega, by go_num, ⟨pw_below_grown (below_alloc HBr.out _) _ (below_alloc HBr.out _).size HG1.out (fun q e => by have := Option.some.inj e; omega)⟩, ⟨by have h_ := Go.Proofs.Ytcgjplolehhpjaa.H.MapD_new HMD.out HM.out; rw [HTL.out] at h_; rw [HTK.out]; exact h_⟩, HO1⟩
    · have hltz : ¬ (i : Int) < (l0.length : Int) := by omega
      have HMD2 := Aside0.mk (show Go.Proofs.Ytcgjplolehhpjaa.H.MapD .u64 ids D by have h_ := HMD.out; rw [List.take_of_length_le (by rw [HIDL.out]; omega)] at h_; exact h_)
      clear HMD
      obtain ⟨w1, hw1⟩ : ∃ w1, w1 = wr := ⟨_, rfl⟩
      subst hw1
      have HGL := Aside0.mk (show w.heap.size ≤ w1.heap.size from HBr.out.size)
      have HGT := Aside0.mk (show w.heap.size < w1.heap.size from HOM.out.lt)
      go_wp2
      go_loopg [43] l0.length (fun d v43 wr => ∃ (j : Nat), j + d = l0.length ∧ v43 = .int .i64 j ∧ Aside0 (Below w.heap.size w wr) ∧ Aside0 (wr.ownsMap Try.prog 35 (plainElem Try.prog 3) w.heap.size i D) ∧ Aside0 (Go.Proofs.Ytcgjplolehhpjaa.H.rowI wr w1.heap.size 3 (p.take j ++ List.replicate (l0.length - j) 0)) ∧ Aside0 (wr.heap[w1.heap.size + 1]? = some (.cells #[.slice (some ⟨w1.heap.size, 0, none⟩) l0.length l0.length] 25 (0, 0))))
      case atStart => exact ⟨0, by omega, rfl, ⟨below_alloc (below_alloc HBr.out _) _⟩, ⟨(HOM.out.alloc _).alloc _⟩, ⟨⟨by have h_ := blk_alloc (Go.Proofs.Ytcgjplolehhpjaa.H.rowI_made w1 3 l0.length).blk (.cells #[.slice (some ⟨w1.heap.size, 0, none⟩) l0.length l0.length] 25 (0, 0)); simpa using h_⟩⟩, ⟨by have h_ := blk_new (w1.alloc (.cells (madeCells #[.int .i64 0] l0.length) 3)) (.cells #[.slice (some ⟨w1.heap.size, 0, none⟩) l0.length l0.length] 25 (0, 0)); simpa using h_⟩⟩
      case round =>
        clear HBr HOM
        obtain ⟨j, hj, rfl, HBr, HOM, HRO, HO8⟩ := hrel
        by_cases hlt2 : j < l0.length
        · have hltz2 : (j : Int) < (l0.length : Int) := by omega
          obtain ⟨ad, e, hx0, hx1, hx2, hx3, hx4, hx5, hx6, hx7⟩ := at_T37 HR.out (j : Int) (by omega) hltz2
          cases e
          replace hx0 := (HBr.out.cell (World.block_lt_of_cell? w _ hx0)).trans hx0; simp only [Int.toNat_natCast] at hx0; replace hx1 := (HBr.out.cell (World.block_lt_of_cell? w _ hx1)).trans hx1; simp only [Int.toNat_natCast] at hx1; replace hx2 := (HBr.out.cell (World.block_lt_of_cell? w _ hx2)).trans hx2; simp only [Int.toNat_natCast] at hx2; replace hx3 := (HBr.out.cell (World.block_lt_of_cell? w _ hx3)).trans hx3; simp only [Int.toNat_natCast] at hx3; replace hx4 := (HBr.out.cell (World.block_lt_of_cell? w _ hx4)).trans hx4; simp only [Int.toNat_natCast] at hx4; replace hx5 := (HBr.out.cell (World.block_lt_of_cell? w _ hx5)).trans hx5; simp only [Int.toNat_natCast] at hx5; replace hx6 := (HBr.out.cell (World.block_lt_of_cell? w _ hx6)).trans hx6; simp only [Int.toNat_natCast] at hx6; replace hx7 := (HBr.out.cell (World.block_lt_of_cell? w _ hx7)).trans hx7; simp only [Int.toNat_natCast] at hx7
          have hy : rd_T37 l0 (j : Int) = l0[j] := by show l0.getD _ _ = _; simp [List.getD_eq_getElem?_getD, List.getElem?_eq_getElem hlt2]
          rw [hy] at hx0 hx1 hx2 hx3 hx4 hx5 hx6 hx7
          have hw2 := (HWAT.out j hlt2).2
          have HPJ := Aside0.mk (HPAT.out j hlt2)
          clear hy
          generalize l0[j] = s at hx0 hx1 hx2 hx3 hx4 hx5 hx6 hx7 hw2 HPJ
          have hkey : keyOf Try.prog 35 (.int .u64 s.f2) = some (.int .u64 s.f2) := Go.Maps.keyOf_int_mk Try.underlying35 hw2
          have HFILL := Aside0.mk (parent_Of_fill p l0.length j HLEN.out hlt2)
          have hlen2 : (p.take j ++ List.replicate (l0.length - j) 0).length = l0.length := by rw [List.length_append, List.length_take, HLEN.out, List.length_replicate]; omega
          have hc8 : ∀ o : Obj, (wr.alloc o).cell? ⟨w1.heap.size + 1, 0, none⟩ = some (.slice (some ⟨w1.heap.size, 0, none⟩) l0.length l0.length) := fun o => (blk_cell (blk_alloc HO8.out o) 0).trans rfl
          obtain ⟨vj, hrow⟩ : ∃ vj, ∀ o : Obj, (wr.alloc o).cell? ⟨w1.heap.size, j, none⟩ = some (.int .i64 vj) := ⟨_, fun o => by have h_ := Go.Proofs.Ytcgjplolehhpjaa.H.rowI_rd ⟨blk_alloc HRO.out.blk o⟩ (j : Int) (by omega) (by rw [hlen2]; exact hltz2); rw [Int.toNat_natCast] at h_; exact h_⟩
          have hfr : ∀ o : Obj, (wr.alloc o).frozen? ⟨w1.heap.size, j, none⟩ = false := fun o => blk_frozen (blk_alloc HRO.out.blk o) j
          have HLEN2 := Aside0.mk hlen2
          clear hlen2
          have hend : ∀ (v : Int), v = p.getD j 0 → ∀ (o : Obj), Aside0 (Below w.heap.size w ((wr.alloc o).setCell ⟨w1.heap.size, j, none⟩ (.int .i64 v))) ∧ Aside0 (((wr.alloc o).setCell ⟨w1.heap.size, j, none⟩ (.int .i64 v)).ownsMap Try.prog 35 (plainElem Try.prog 3) w.heap.size i D) ∧ Aside0 (Go.Proofs.Ytcgjplolehhpjaa.H.rowI ((wr.alloc o).setCell ⟨w1.heap.size, j, none⟩ (.int .i64 v)) w1.heap.size 3 (p.take (j + 1) ++ List.replicate (l0.length - (j + 1)) 0)) ∧ Aside0 (((wr.alloc o).setCell ⟨w1.heap.size, j, none⟩ (.int .i64 v)).heap[w1.heap.size + 1]? = some (.cells #[.slice (some ⟨w1.heap.size, 0, none⟩) l0.length l0.length] 25 (0, 0))) := fun v hv o => by
            subst hv
            refine ⟨⟨below_set (below_alloc HBr.out _) HGL.out⟩, ⟨(HOM.out.alloc _).kept (Go.Proofs.Ytcgjplolehhpjaa.H.grown_set _ _ _ _) (by have := HGT.out; simp; omega)⟩, ⟨?_⟩, ⟨blk_far (blk_alloc HO8.out _) (by simp) _⟩⟩
            rw [← HFILL.out]
            exact Go.Proofs.Ytcgjplolehhpjaa.H.rowI_set ⟨blk_alloc HRO.out.blk _⟩ j _
          have HEND := Aside0.mk hend
          clear hend
          have hnxt : wrap64 ((j : Int) + 1) = ((j + 1 : Nat) : Int) := by unfold wrap64; omega
          have HNXT := Aside0.mk hnxt
          clear hnxt
          by_cases hm : s.f2 ∈ ids
          · have hhas : Go.Maps.has D (.int .u64 s.f2) = true := by rw [HMD2.out.has]; exact decide_eq_true hm
            have HAT := Aside0.mk (HMD2.out.at_ s.f2 hm)
            have HM := Aside0.mk hm
            clear hm
            by_cases h0 : s.f2 = 0
            · have hp0 := HPJ.out
              rw [if_pos h0] at hp0
              have HV := Aside0.mk (HEND.out (-1) hp0.symm)
              have h0b : (s.f2 == 0) = true := beq_iff_eq.mpr h0
              clear hp0 h0
              go_wp2_with (at_lookup; refine wpList_lookup_own_ok_int _ rfl _ _ 51 rfl 35 3 .i64 parent_Of_law Try.underlying51 Try.underlying3 (parent_Of_zero _) w.heap.size i _ rfl (HOM.out.alloc _) _ _ rfl hkey ?_; intro c hat hwc)
              go_roundg (gk - 1)
              case measure => omega
              case rel => exact ⟨j + 1, by omega, by go_num, (HV.out _).1, (HV.out _).2.1, (HV.out _).2.2.1, (HV.out _).2.2.2⟩
            · have hp0 := HPJ.out
              rw [if_neg h0] at hp0
              have HV := Aside0.mk (fun c (hc : c = Go.Proofs.Ytcgjplolehhpjaa.H.firstI ids s.f2) => HEND.out c (hc.trans hp0.symm))
              have h0b : (s.f2 == 0) = false := beq_eq_false_iff_ne.mpr h0
              clear hp0 h0
              go_wp2_with (at_lookup; refine wpList_lookup_own_ok_int _ rfl _ _ 51 rfl 35 3 .i64 parent_Of_law Try.underlying51 Try.underlying3 (parent_Of_zero _) w.heap.size i _ rfl (HOM.out.alloc _) _ _ rfl hkey ?_; intro c hat hwc; have HC := Aside0.mk (show c = Go.Proofs.Ytcgjplolehhpjaa.H.firstI ids s.f2 by rw [HAT.out] at hat; simpa using hat.symm); clear hat)
              go_roundg (gk - 1)
              case measure => omega
              case rel => exact ⟨j + 1, by omega, by go_num, (HV.out _ HC.out _).1, (HV.out _ HC.out _).2.1, (HV.out _ HC.out _).2.2.1, (HV.out _ HC.out _).2.2.2⟩
          · have hhas : Go.Maps.has D (.int .u64 s.f2) = false := by rw [HMD2.out.has]; exact decide_eq_false hm
            have hp0 := HPJ.out
            have hf : Go.Proofs.Ytcgjplolehhpjaa.H.firstI ids s.f2 = -1 := by
              have h1 := Go.Proofs.Ytcgjplolehhpjaa.H.firstI_lt ids s.f2
              have h2 := mt Go.Proofs.Ytcgjplolehhpjaa.H.firstI_mem.2 hm
              omega
            rw [hf, show (if s.f2 = 0 then (-1 : Int) else -1) = -1 by split <;> rfl] at hp0
            have HV := Aside0.mk (HEND.out (-1) hp0.symm)
            clear hp0 hf hm
            go_wp2_with (at_lookup; refine wpList_lookup_own_ok_int _ rfl _ _ 51 rfl 35 3 .i64 parent_Of_law Try.underlying51 Try.underlying3 (parent_Of_zero _) w.heap.size i _ rfl (HOM.out.alloc _) _ _ rfl hkey ?_; intro c hat hwc)
            go_roundg (gk - 1)
            case measure => omega
            case rel => exact ⟨j + 1, by omega, by go_num, (HV.out _).1, (HV.out _).2.1, (HV.out _).2.2.1, (HV.out _).2.2.2⟩
        · have hltz2 : ¬ (j : Int) < (l0.length : Int) := by omega
          have HRP := Aside0.mk (show Go.Proofs.Ytcgjplolehhpjaa.H.rowI wr w1.heap.size 3 p by
            have h_ := HRO.out
            rw [List.take_of_length_le (by rw [HLEN.out]; omega), show l0.length - j = 0 by omega, List.replicate_zero, List.append_nil] at h_
            exact h_)
          clear HRO
          obtain ⟨w2, hw2⟩ : ∃ w2, w2 = wr := ⟨_, rfl⟩
          subst hw2
          have hc8 : ∀ o : Obj, (w2.alloc o).cell? ⟨w1.heap.size + 1, 0, none⟩ = some (.slice (some ⟨w1.heap.size, 0, none⟩) l0.length l0.length) := fun o => (blk_cell (blk_alloc HO8.out o) 0).trans rfl
          have HG2 := Aside0.mk (show w1.heap.size + 1 < w2.heap.size from blk_lt HO8.out)
          have hcall := parent_cycles.calls k (some ⟨w1.heap.size, 0, none⟩) p.length p fs 39 #[.pointer (some ⟨w1.heap.size + 1, 0, none⟩), .pointer (some ⟨w2.heap.size, 0, none⟩)] (fun args w => enters_ (P := Try.prog) Try.func39 (by kernel_rfl) rfl args w) (w2.alloc (.cells #[.slice none 0 0] 25 (0, 0))) (parent_Of_St w w1.heap.size (w1.heap.size + 1) w2.heap.size k p)
            (fun W G hb hg => ⟨below_step (below_alloc HBr.out _) hb, HGL.out, by omega, HG2.out, by simp at hg; omega, ⟨blk_below (blk_alloc HRP.out.blk _) hb⟩, by rw [HLEN.out]; exact blk_below (blk_alloc HO8.out _) hb, _, [], rfl, blk_below (blk_new _ _) hb, Kd.R_nil _ _ _ _ _⟩)
            (fun G fs' W W' hs hg => parent_Of_St_grown hs hg)
            (fun G fs' W hs => Go.Proofs.Ytcgjplolehhpjaa.H.rowI_C hs.row (by rw [HLEN.out]; omega))
            (fun G fs' a rest W hfs2 hs hlt => by
              have hl := HLS.out
              rw [hfs2] at hl
              obtain ⟨ls', x, g1, g2, g3⟩ := Go.Proofs.Ytcgjplolehhpjaa.H.leastsF_split hl
              refine parent_Of_found w _ _ _ k p (by rw [HLEN.out]; omega) G fs' a x ls' ?_ g1 g2 g3 W hs hlt
              have g4 := Go.Proofs.Ytcgjplolehhpjaa.H.leastsF_len g1
              have g5 := HFL.out
              rw [hfs2, HLEN.out] at g5
              simp at g5
              omega)
            (by rw [HLEN.out]; omega) (Nat.le_refl _) HFS.out
          rw [HLEN.out] at hcall
          have HCALL := Aside0.mk hcall
          clear hcall
          go_wp2_with (go_at_call 38; refine HCALL.out.mono ?_; rintro e w3 ⟨rfl, G, hs⟩; obtain ⟨v, ls0, g1, g2, g3⟩ := hs.los; obtain rfl : ls0 = ls := Option.some.inj (g1.symm.trans HLS.out); obtain ⟨Av, cv, rfl⟩ := Kd.R_slice g3; have hc13 : w3.cell? ⟨w2.heap.size, 0, none⟩ = some (.slice Av ls0.length cv) := (blk_cell g2 0).trans rfl; have HS := Aside0.mk hs; have HRL := Aside0.mk g3; clear g1 g2 g3 hs)
          clear hc8 HCALL HRP HO8 HOM HBr
          have hlsb : ls0.length ≤ 1000000 := by rw [Go.Proofs.Ytcgjplolehhpjaa.H.leastsF_len HLS.out]; have := HFL.out; rw [HLEN.out] at this; omega
          go_loopg [72] ls0.length (fun d v72 wr => ∃ (j : Nat) (cur : List Int), j + d = ls0.length ∧ v72 = .int .i64 j ∧ Aside0 (Go.Proofs.Ytcgjplolehhpjaa.H.clearF cur (ls0.drop j) = some r) ∧ Aside0 (cur.length = l0.length) ∧ Aside0 (Below w.heap.size w wr) ∧ Aside0 (Go.Proofs.Ytcgjplolehhpjaa.H.rowI wr w1.heap.size 3 cur) ∧ Aside0 (wr.heap[w1.heap.size + 1]? = some (.cells #[.slice (some ⟨w1.heap.size, 0, none⟩) l0.length l0.length] 25 (0, 0))) ∧ Aside0 (Kd.R (Kd.int .i64) 3 wr (w2.heap.size + 1) (fun q => q ≠ G) (.slice Av ls0.length cv) ls0))
          case atStart => exact ⟨0, p, by omega, rfl, HCL, HLEN, ⟨HS.out.below⟩, ⟨HS.out.row⟩, ⟨by have h_ := HS.out.out; rw [HLEN.out] at h_; exact h_⟩, HRL⟩
          case round =>
            clear HRL
            obtain ⟨j2, cur, hj2, rfl, HC2, HL2, HB2, HR2, HO2, HRL⟩ := hrel
            have hc8 : wr.cell? ⟨w1.heap.size + 1, 0, none⟩ = some (.slice (some ⟨w1.heap.size, 0, none⟩) l0.length l0.length) := (blk_cell HO2.out 0).trans rfl
            by_cases hlt3 : j2 < ls0.length
            · have hltz3 : (j2 : Int) < (ls0.length : Int) := by omega
              obtain ⟨ad, e, hx⟩ := Kd.at_int (Kd.R_reads' HRL.out).2.2 (j2 : Int) (by omega) hltz3
              cases e
              have hv : rd ls0 (j2 : Int) = ls0.getD j2 0 := by unfold rd; rw [Int.toNat_natCast]
              rw [hv, Int.toNat_natCast] at hx
              have hcl := HC2.out
              rw [show ls0.drop j2 = ls0.getD j2 0 :: ls0.drop (j2 + 1) by rw [List.drop_eq_getElem_cons hlt3, List.getD_eq_getElem?_getD, List.getElem?_eq_getElem hlt3]; rfl] at hcl
              clear hv
              generalize ls0.getD j2 0 = z at hx hcl
              unfold Go.Proofs.Ytcgjplolehhpjaa.H.clearF at hcl
              by_cases hz0 : 0 ≤ z
              case neg => rw [if_neg hz0] at hcl; cases hcl
              rw [if_pos hz0] at hcl
              by_cases hz1 : z < (cur.length : Int)
              case neg => rw [if_neg hz1] at hcl; cases hcl
              rw [if_pos hz1] at hcl
              have hcell := Go.Proofs.Ytcgjplolehhpjaa.H.rowI_rd HR2.out z hz0 hz1
              have hfr := Go.Proofs.Ytcgjplolehhpjaa.H.rowI_frozen HR2.out z.toNat
              rw [HL2.out] at hz1
              have HCN := Aside0.mk hcl
              clear hcl
              go_wp2_with (fail)
              go_roundg (gk - 1)
              case measure => omega
              case rel => exact ⟨j2 + 1, cur.set z.toNat (-1), by omega, by go_num, HCN, ⟨by rw [List.length_set]; exact HL2.out⟩, ⟨below_set HB2.out HGL.out⟩, ⟨Go.Proofs.Ytcgjplolehhpjaa.H.rowI_set HR2.out _ _⟩, ⟨blk_far HO2.out (by simp) _⟩, ⟨Kd.R_mono (Kd.R_far (Kd.R_bound HRL.out) (p := ⟨w1.heap.size, z.toNat, none⟩) (fun q hq => by have := hq.2.1; have := HG2.out; show q ≠ w1.heap.size; omega) _) (fun q hq => hq.1)⟩⟩
            · have hltz3 : ¬ (j2 : Int) < (ls0.length : Int) := by omega
              have hcl := HC2.out
              rw [List.drop_of_length_le (by omega)] at hcl
              obtain rfl := Option.some.inj (show some cur = some r from hcl)
              go_wp2_with (fail)
              go_ret
              refine ⟨_, rfl, ?_, HB2.out⟩
              have h_ := Go.Proofs.Ytcgjplolehhpjaa.H.rowI_R HR2.out HGL.out (by rw [HL2.out]; omega)
              rw [HL2.out] at h_
              exact h_


-- NOT PRINTED: function 14 (merkhetlaw11_ForestOnce)

-- NOT PRINTED: function 6 (merkhetlaw11_ForestOrder)

end Go.Proofs.Ytcgjplolehhpjaa.O
