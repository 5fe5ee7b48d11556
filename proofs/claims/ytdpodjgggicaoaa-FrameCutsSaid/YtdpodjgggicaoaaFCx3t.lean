-- WRITTEN FOR THIS CLAIM by wip/tools/mp.py, a program of this project that drives the kit's print; the functions that the print does not take are this project's own texts.
import Derived.Test.YtdpodjgggicaoaaFCx0t
import Derived.Test.YtdpodjgggicaoaaFCx1t
import Derived.Test.YtdpodjgggicaoaaFCx2t
namespace Go.Proofs.Ytdpodjgggicaoaa.FC
open Go.RowKit Go.Proofs.YtdpodjgggicaoaaW.PrintWords Go.Proofs.YtdpodjgggicaoaaW.PrintLast Go.Proofs.YtdpodjgggicaoaaW.PrintMore
attribute [local go_sem] max2_int min2_int max_two min_two max_three min_three max_four min_four   -- for this text's walks alone
set_option linter.unusedVariables false
set_option linter.unusedSimpArgs false
mutual
def merkhetlaw06_FrameCuts.l0 : Nat → List (List Int) → Int → List (List Int) → Int → Int → Option (Bool)
  | 0, _, _, _, _, _ => none
  | k + 1, x0, x1, x22, x23, x24 => if x24 < x23 then (if 0 ≤ x24 then (if x24 < (x22.length : Int) then (if ((rd_L1 x22 x24).length : Int) < 1 then ((merkhetlaw06_fixed.f k).bind fun t152 => (some t152)) else (if ((rd_L1 x22 x24).length : Int) > 300 then ((merkhetlaw06_fixed.f k).bind fun t153 => (some t153)) else (merkhetlaw06_FrameCuts.l0 k x0 x1 x22 x23 (wrap64 (x24 + 1))))) else (none)) else (none)) else ((merkhetlaw06_laid.f k x0).bind fun bt154 => (if bt154.2.2 = true then (merkhetlaw06_FrameCuts.l1 k x0 bt154.1 (mn (wrap64 (x1)) (bt154.1.length : Int)) 0 0 bt154.2.1 (bt154.2.1.length : Int) 0) else (some false)))
def merkhetlaw06_FrameCuts.l1 : Nat → List (List Int) → List Int → Int → Int → Int → List Int → Int → Int → Option (Bool)
  | 0, _, _, _, _, _, _, _, _ => none
  | k + 1, x0, x7, x10, x11, x12, x51, x52, x53 => if x53 < x52 then (if 0 ≤ x53 then (if x53 < (x51.length : Int) then (if (rd x51 x53) ≤ x10 then (merkhetlaw06_FrameCuts.l1 k x0 x7 x10 (wrap64 (x11 + 1)) (rd x51 x53) x51 x52 (wrap64 (x53 + 1))) else (merkhetlaw06_FrameCuts.l1 k x0 x7 x10 x11 x12 x51 x52 (wrap64 (x53 + 1)))) else (none)) else (none)) else (if 0 ≤ x10 then (if x10 ≤ (x7.length : Int) then ((frame_All.f k (x7.take (x10 : Int).toNat) 0 99).bind fun bt166 => (if (bt166.1.length : Int) = x11 then (merkhetlaw06_FrameCuts.j2 k x0 bt166.1 (bt166.2 != x12)) else (merkhetlaw06_FrameCuts.j2 k x0 bt166.1 true))) else (none)) else (none))
def merkhetlaw06_FrameCuts.j2 : Nat → List (List Int) → List (List Int) → Bool → Option (Bool)
  | 0, _, _, _ => none
  | k + 1, x0, x15, x79 => if x79 = true then (some false) else (merkhetlaw06_FrameCuts.l2 k x0 x15 (x15.length : Int) 0)
def merkhetlaw06_FrameCuts.l2 : Nat → List (List Int) → List (List Int) → Int → Int → Option (Bool)
  | 0, _, _, _, _ => none
  | k + 1, x0, x15, x81, x82 => if x82 < x81 then (if 0 ≤ x82 then (if x82 < (x15.length : Int) then (if x82 < (x0.length : Int) then (if (strOfNums (rd_L1 x15 x82)).toList = (strOfNums (rd_L1 x0 x82)).toList then (merkhetlaw06_FrameCuts.l2 k x0 x15 x81 (wrap64 (x82 + 1))) else (some false)) else (none)) else (none)) else (none)) else ((merkhetlaw06_fixed.f k).bind fun t172 => (some t172))
end
def merkhetlaw06_FrameCuts.f (k : Nat) (l0 : List (List Int)) (a1 : Int) : Option (Bool) := if (l0.length : Int) > 20 then ((merkhetlaw06_fixed.f k).bind fun t150 => (some t150)) else (merkhetlaw06_FrameCuts.l0 k l0 a1 l0 (l0.length : Int) 0)
theorem merkhetlaw06_FrameCuts.mono_l : ∀ k, (∀ y0 y1 y2 y3 y4, LeO (merkhetlaw06_FrameCuts.l0 k y0 y1 y2 y3 y4) (merkhetlaw06_FrameCuts.l0 (k + 1) y0 y1 y2 y3 y4)) ∧ (∀ y0 y1 y2 y3 y4 y5 y6 y7, LeO (merkhetlaw06_FrameCuts.l1 k y0 y1 y2 y3 y4 y5 y6 y7) (merkhetlaw06_FrameCuts.l1 (k + 1) y0 y1 y2 y3 y4 y5 y6 y7)) ∧ (∀ y0 y1 y2, LeO (merkhetlaw06_FrameCuts.j2 k y0 y1 y2) (merkhetlaw06_FrameCuts.j2 (k + 1) y0 y1 y2)) ∧ (∀ y0 y1 y2 y3, LeO (merkhetlaw06_FrameCuts.l2 k y0 y1 y2 y3) (merkhetlaw06_FrameCuts.l2 (k + 1) y0 y1 y2 y3))
  | 0 => ⟨fun _ _ _ _ _ r h => by simp [merkhetlaw06_FrameCuts.l0] at h, fun _ _ _ _ _ _ _ _ r h => by simp [merkhetlaw06_FrameCuts.l1] at h, fun _ _ _ r h => by simp [merkhetlaw06_FrameCuts.j2] at h, fun _ _ _ _ r h => by simp [merkhetlaw06_FrameCuts.l2] at h⟩
  | k + 1 => by
    obtain ⟨ih0, ih1, ih2, ih3⟩ := merkhetlaw06_FrameCuts.mono_l k
    refine ⟨?_, ?_, ?_, ?_⟩
    · intro y0 y1 y2 y3 y4
      unfold merkhetlaw06_FrameCuts.l0
      repeat' first
      | (with_reducible exact ih0 _ _ _ _ _)
      | (with_reducible exact ih1 _ _ _ _ _ _ _ _)
      | (with_reducible exact ih2 _ _ _)
      | (with_reducible exact ih3 _ _ _ _)
      | (with_reducible exact frame_All.mono _ _ _ _)
      | (with_reducible exact merkhetlaw06_fixed.mono _)
      | (with_reducible exact merkhetlaw06_laid.mono _ _)
      | (with_reducible exact LeO.refl _)
      | (with_reducible exact LeO.none _)
      | (with_reducible refine LeO.ite ?_ ?_)
      | (with_reducible refine LeO.bind ?_ (fun _ => ?_))
      | exact ih0 _ _ _ _ _
      | exact ih1 _ _ _ _ _ _ _ _
      | exact ih2 _ _ _
      | exact ih3 _ _ _ _
      | exact frame_All.mono _ _ _ _
      | exact merkhetlaw06_fixed.mono _
      | exact merkhetlaw06_laid.mono _ _
      | exact LeO.none _
      | refine LeO.ite ?_ ?_
      | refine LeO.bind ?_ (fun _ => ?_)
    · intro y0 y1 y2 y3 y4 y5 y6 y7
      unfold merkhetlaw06_FrameCuts.l1
      repeat' first
      | (with_reducible exact ih0 _ _ _ _ _)
      | (with_reducible exact ih1 _ _ _ _ _ _ _ _)
      | (with_reducible exact ih2 _ _ _)
      | (with_reducible exact ih3 _ _ _ _)
      | (with_reducible exact frame_All.mono _ _ _ _)
      | (with_reducible exact merkhetlaw06_fixed.mono _)
      | (with_reducible exact merkhetlaw06_laid.mono _ _)
      | (with_reducible exact LeO.refl _)
      | (with_reducible exact LeO.none _)
      | (with_reducible refine LeO.ite ?_ ?_)
      | (with_reducible refine LeO.bind ?_ (fun _ => ?_))
      | exact ih0 _ _ _ _ _
      | exact ih1 _ _ _ _ _ _ _ _
      | exact ih2 _ _ _
      | exact ih3 _ _ _ _
      | exact frame_All.mono _ _ _ _
      | exact merkhetlaw06_fixed.mono _
      | exact merkhetlaw06_laid.mono _ _
      | exact LeO.none _
      | refine LeO.ite ?_ ?_
      | refine LeO.bind ?_ (fun _ => ?_)
    · intro y0 y1 y2
      unfold merkhetlaw06_FrameCuts.j2
      repeat' first
      | (with_reducible exact ih0 _ _ _ _ _)
      | (with_reducible exact ih1 _ _ _ _ _ _ _ _)
      | (with_reducible exact ih2 _ _ _)
      | (with_reducible exact ih3 _ _ _ _)
      | (with_reducible exact frame_All.mono _ _ _ _)
      | (with_reducible exact merkhetlaw06_fixed.mono _)
      | (with_reducible exact merkhetlaw06_laid.mono _ _)
      | (with_reducible exact LeO.refl _)
      | (with_reducible exact LeO.none _)
      | (with_reducible refine LeO.ite ?_ ?_)
      | (with_reducible refine LeO.bind ?_ (fun _ => ?_))
      | exact ih0 _ _ _ _ _
      | exact ih1 _ _ _ _ _ _ _ _
      | exact ih2 _ _ _
      | exact ih3 _ _ _ _
      | exact frame_All.mono _ _ _ _
      | exact merkhetlaw06_fixed.mono _
      | exact merkhetlaw06_laid.mono _ _
      | exact LeO.none _
      | refine LeO.ite ?_ ?_
      | refine LeO.bind ?_ (fun _ => ?_)
    · intro y0 y1 y2 y3
      unfold merkhetlaw06_FrameCuts.l2
      repeat' first
      | (with_reducible exact ih0 _ _ _ _ _)
      | (with_reducible exact ih1 _ _ _ _ _ _ _ _)
      | (with_reducible exact ih2 _ _ _)
      | (with_reducible exact ih3 _ _ _ _)
      | (with_reducible exact frame_All.mono _ _ _ _)
      | (with_reducible exact merkhetlaw06_fixed.mono _)
      | (with_reducible exact merkhetlaw06_laid.mono _ _)
      | (with_reducible exact LeO.refl _)
      | (with_reducible exact LeO.none _)
      | (with_reducible refine LeO.ite ?_ ?_)
      | (with_reducible refine LeO.bind ?_ (fun _ => ?_))
      | exact ih0 _ _ _ _ _
      | exact ih1 _ _ _ _ _ _ _ _
      | exact ih2 _ _ _
      | exact ih3 _ _ _ _
      | exact frame_All.mono _ _ _ _
      | exact merkhetlaw06_fixed.mono _
      | exact merkhetlaw06_laid.mono _ _
      | exact LeO.none _
      | refine LeO.ite ?_ ?_
      | refine LeO.bind ?_ (fun _ => ?_)
theorem merkhetlaw06_FrameCuts.mono : ∀ a0 a1 k, LeO (merkhetlaw06_FrameCuts.f k a0 a1) (merkhetlaw06_FrameCuts.f (k + 1) a0 a1) := by
  intro a0 a1 k
  obtain ⟨ih0, ih1, ih2, ih3⟩ := merkhetlaw06_FrameCuts.mono_l k
  unfold merkhetlaw06_FrameCuts.f
  repeat' first
      | (with_reducible exact ih0 _ _ _ _ _)
      | (with_reducible exact ih1 _ _ _ _ _ _ _ _)
      | (with_reducible exact ih2 _ _ _)
      | (with_reducible exact ih3 _ _ _ _)
      | (with_reducible exact frame_All.mono _ _ _ _)
      | (with_reducible exact merkhetlaw06_fixed.mono _)
      | (with_reducible exact merkhetlaw06_laid.mono _ _)
      | (with_reducible exact LeO.refl _)
      | (with_reducible exact LeO.none _)
      | (with_reducible refine LeO.ite ?_ ?_)
      | (with_reducible refine LeO.bind ?_ (fun _ => ?_))
      | exact ih0 _ _ _ _ _
      | exact ih1 _ _ _ _ _ _ _ _
      | exact ih2 _ _ _
      | exact ih3 _ _ _ _
      | exact frame_All.mono _ _ _ _
      | exact merkhetlaw06_fixed.mono _
      | exact merkhetlaw06_laid.mono _ _
      | exact LeO.none _
      | refine LeO.ite ?_ ?_
      | refine LeO.bind ?_ (fun _ => ?_)
set_option maxHeartbeats 8000000 in
set_option maxRecDepth 100000 in
theorem merkhetlaw06_FrameCuts.calls (k : Nat) (A0 : Option Addr) (c0 : Nat) (l0 : List (List Int)) (a1 : Int) (r : Bool) (w : World) (hr0 : Kd.C (Kd.slice 5 (Kd.int .u8)) w A0 l0.length l0) (hc0 : l0.length ≤ c0) (h : merkhetlaw06_FrameCuts.f k l0 a1 = some r) :
    Calls Try.prog 7 #[.slice A0 l0.length c0, .int .u16 a1] w fun e w' => e = .returned (.bool r) ∧ Below w.heap.size w w' := by
  have HR0 := Aside0.mk hr0
  have HC0 := Aside0.mk hc0
  clear hr0 hc0
  have HB := Aside0.mk (Below.refl w.heap.size w)
  have H : (if (l0.length : Int) > 20 then ((merkhetlaw06_fixed.f k).bind fun t150 => (some t150)) else (merkhetlaw06_FrameCuts.l0 k l0 a1 l0 (l0.length : Int) 0)) = some r := h
  clear h
  by_cases c3 : (l0.length : Int) > 20
  · rw [if_pos c3] at H
    have c3b0 : decide (20 < (l0.length : Int)) = true := decide_eq_true c3
    have c3b1 : decide (20 < l0.length) = true := decide_eq_true (by omega)
    clear c3
    replace H := Option.bind_eq_some_iff.mp H
    obtain ⟨t150, A40, H⟩ := H
    replace H : (some t150) = some r := H
    have A4 := Aside0.mk A40
    clear A40
    obtain rfl := Option.some.inj H
    go_enter Try.func7, Try.ntmps7
    go_wp2_with (first | (go_at_call 19; (with_reducible refine (merkhetlaw06_fixed.calls k  t150 _ A4.out).mono ?_); rintro e w5 ⟨rfl, hb⟩; have n0_ := Aside0.mk (below_step (by repeat (first | (with_reducible first | exact HB.out | apply below_alloc | apply pw_below_drewN | apply below_drew1) | exact HB.out)) hb); clear HB; have HB := n0_; clear n0_; (try clear hb); (try clear hb2); (try clear hk); (try clear hi)))
    repeat (go_quiet (first | (go_at_call 19; (with_reducible refine (merkhetlaw06_fixed.calls k  t150 _ A4.out).mono ?_); rintro e w5 ⟨rfl, hb⟩; have n0_ := Aside0.mk (below_step (by repeat (first | (with_reducible first | exact HB.out | apply below_alloc | apply pw_below_drewN | apply below_drew1) | exact HB.out)) hb); clear HB; have HB := n0_; clear n0_; (try clear hb); (try clear hb2); (try clear hk); (try clear hi))); try go_wp2_with (first | (go_at_call 19; (with_reducible refine (merkhetlaw06_fixed.calls k  t150 _ A4.out).mono ?_); rintro e w5 ⟨rfl, hb⟩; have n0_ := Aside0.mk (below_step (by repeat (first | (with_reducible first | exact HB.out | apply below_alloc | apply pw_below_drewN | apply below_drew1) | exact HB.out)) hb); clear HB; have HB := n0_; clear n0_; (try clear hb); (try clear hb2); (try clear hk); (try clear hi))))
    go_ret
    exact ⟨by first | rfl | (simp [errW_none, errW_some] <;> rfl) | (simp [*, errW_none, errW_some] <;> rfl), by repeat (first | (with_reducible first | exact HB.out | apply below_alloc | apply pw_below_drewN | apply below_drew1) | exact HB.out)⟩
  · rw [if_neg c3] at H
    have c3b0 : decide (20 < (l0.length : Int)) = false := decide_eq_false c3
    have c3b1 : decide (20 < l0.length) = false := decide_eq_false (by omega)
    clear c3
    have H' := Aside0.mk H
    clear H
    go_enter Try.func7, Try.ntmps7
    go_wp2
    repeat (go_quiet (fail); try go_wp2)
    go_loopg [24] k (fun kq v24 w' => ∃ (x24_1 : Int), v24 = .int .i64 x24_1 ∧ Aside0 (merkhetlaw06_FrameCuts.l0 kq l0 a1 l0 (l0.length : Int) x24_1 = some r) ∧ Aside0 (kq ≤ k) ∧ Aside0 (Below w.heap.size w w'))
    case atStart => exact ⟨(0), (by first | rfl | (simp; done) | (simp [*]; done)), H', ⟨Nat.le_refl _⟩, ⟨by repeat (first | (with_reducible first | exact HB.out | apply below_alloc | apply pw_below_drewN | apply below_drew1) | exact HB.out)⟩⟩
    case round =>
      clear H'
      try clear p2
      try clear c3
      try clear c3b0
      try clear c3b1
      obtain ⟨x24_1, rfl, HA, HK1, HB⟩ := hrel
      cases gk with
      | zero => exact absurd HA.out (by simp [merkhetlaw06_FrameCuts.l0])
      | succ k1 =>
        have H := HA.out
        clear HA
        simp only [merkhetlaw06_FrameCuts.l0] at H
        by_cases c6 : x24_1 < (l0.length : Int)
        · rw [if_pos c6] at H
          have c6b0 : decide (x24_1 < (l0.length : Int)) = true := decide_eq_true c6
          clear c6
          by_cases c7 : 0 ≤ x24_1
          · rw [if_pos c7] at H
            have c7b0 : decide (0 ≤ x24_1) = true := decide_eq_true c7
            clear c7
            by_cases c8 : x24_1 < (l0.length : Int)
            · rw [if_pos c8] at H
              have c8b0 : decide (x24_1 < (l0.length : Int)) = true := decide_eq_true c8
              clear c8
              by_cases c9 : ((rd_L1 l0 x24_1).length : Int) < 1
              · rw [if_pos c9] at H
                have c9b0 : decide (((rd_L1 l0 x24_1).length : Int) < 1) = true := decide_eq_true c9
                have c9b1 : decide ((rd_L1 l0 x24_1).length < 1) = true := decide_eq_true (by omega)
                clear c9
                replace H := Option.bind_eq_some_iff.mp H
                obtain ⟨t152, A100, H⟩ := H
                replace H : (some t152) = some r := H
                have A10 := Aside0.mk A100
                clear A100
                obtain rfl := Option.some.inj H
                have p151 : 0 ≤ (x24_1 : Int) := of_decide_eq_true (by first | (with_reducible assumption) | assumption)
                have q151 : x24_1 < (l0.length : Int) := of_decide_eq_true (by first | (with_reducible assumption) | assumption)
                obtain ⟨ad151, A151_0, c151_0, e151, hx151_0, hl151_0, hi151_0⟩ := at_L1 HR0.out x24_1 p151 q151
                cases e151
                replace hx151_0 := (HB.out.cell (World.block_lt_of_cell? w _ hx151_0)).trans hx151_0
                have HR151_0 := Aside0.mk hi151_0
                have HC151_0 := Aside0.mk hl151_0
                clear hi151_0 hl151_0
                replace p151 := eq_true p151
                replace q151 := eq_true q151
                go_wp2_with (first | (go_at_call 19; (with_reducible refine (merkhetlaw06_fixed.calls k1  t152 _ A10.out).mono ?_); rintro e w11 ⟨rfl, hb⟩; have n0_ := Aside0.mk (below_step (by repeat (first | (with_reducible first | exact HB.out | apply below_alloc | apply pw_below_drewN | apply below_drew1) | exact HB.out)) hb); clear HB; have HB := n0_; clear n0_; (try clear hb); (try clear hb2); (try clear hk); (try clear hi)))
                repeat (go_quiet (first | (go_at_call 19; (with_reducible refine (merkhetlaw06_fixed.calls k1  t152 _ A10.out).mono ?_); rintro e w11 ⟨rfl, hb⟩; have n0_ := Aside0.mk (below_step (by repeat (first | (with_reducible first | exact HB.out | apply below_alloc | apply pw_below_drewN | apply below_drew1) | exact HB.out)) hb); clear HB; have HB := n0_; clear n0_; (try clear hb); (try clear hb2); (try clear hk); (try clear hi))); try go_wp2_with (first | (go_at_call 19; (with_reducible refine (merkhetlaw06_fixed.calls k1  t152 _ A10.out).mono ?_); rintro e w11 ⟨rfl, hb⟩; have n0_ := Aside0.mk (below_step (by repeat (first | (with_reducible first | exact HB.out | apply below_alloc | apply pw_below_drewN | apply below_drew1) | exact HB.out)) hb); clear HB; have HB := n0_; clear n0_; (try clear hb); (try clear hb2); (try clear hk); (try clear hi))))
                go_ret
                exact ⟨by first | rfl | (simp [errW_none, errW_some] <;> rfl) | (simp [*, errW_none, errW_some] <;> rfl), by repeat (first | (with_reducible first | exact HB.out | apply below_alloc | apply pw_below_drewN | apply below_drew1) | exact HB.out)⟩
              · rw [if_neg c9] at H
                have c9b0 : decide (((rd_L1 l0 x24_1).length : Int) < 1) = false := decide_eq_false c9
                have c9b1 : decide ((rd_L1 l0 x24_1).length < 1) = false := decide_eq_false (by omega)
                clear c9
                by_cases c12 : ((rd_L1 l0 x24_1).length : Int) > 300
                · rw [if_pos c12] at H
                  have c12b0 : decide (300 < ((rd_L1 l0 x24_1).length : Int)) = true := decide_eq_true c12
                  have c12b1 : decide (300 < (rd_L1 l0 x24_1).length) = true := decide_eq_true (by omega)
                  clear c12
                  replace H := Option.bind_eq_some_iff.mp H
                  obtain ⟨t153, A130, H⟩ := H
                  replace H : (some t153) = some r := H
                  have A13 := Aside0.mk A130
                  clear A130
                  obtain rfl := Option.some.inj H
                  have p151 : 0 ≤ (x24_1 : Int) := of_decide_eq_true (by first | (with_reducible assumption) | assumption)
                  have q151 : x24_1 < (l0.length : Int) := of_decide_eq_true (by first | (with_reducible assumption) | assumption)
                  obtain ⟨ad151, A151_0, c151_0, e151, hx151_0, hl151_0, hi151_0⟩ := at_L1 HR0.out x24_1 p151 q151
                  cases e151
                  replace hx151_0 := (HB.out.cell (World.block_lt_of_cell? w _ hx151_0)).trans hx151_0
                  have HR151_0 := Aside0.mk hi151_0
                  have HC151_0 := Aside0.mk hl151_0
                  clear hi151_0 hl151_0
                  replace p151 := eq_true p151
                  replace q151 := eq_true q151
                  go_wp2_with (first | (go_at_call 19; (with_reducible refine (merkhetlaw06_fixed.calls k1  t153 _ A13.out).mono ?_); rintro e w14 ⟨rfl, hb⟩; have n0_ := Aside0.mk (below_step (by repeat (first | (with_reducible first | exact HB.out | apply below_alloc | apply pw_below_drewN | apply below_drew1) | exact HB.out)) hb); clear HB; have HB := n0_; clear n0_; (try clear hb); (try clear hb2); (try clear hk); (try clear hi)))
                  repeat (go_quiet (first | (go_at_call 19; (with_reducible refine (merkhetlaw06_fixed.calls k1  t153 _ A13.out).mono ?_); rintro e w14 ⟨rfl, hb⟩; have n0_ := Aside0.mk (below_step (by repeat (first | (with_reducible first | exact HB.out | apply below_alloc | apply pw_below_drewN | apply below_drew1) | exact HB.out)) hb); clear HB; have HB := n0_; clear n0_; (try clear hb); (try clear hb2); (try clear hk); (try clear hi))); try go_wp2_with (first | (go_at_call 19; (with_reducible refine (merkhetlaw06_fixed.calls k1  t153 _ A13.out).mono ?_); rintro e w14 ⟨rfl, hb⟩; have n0_ := Aside0.mk (below_step (by repeat (first | (with_reducible first | exact HB.out | apply below_alloc | apply pw_below_drewN | apply below_drew1) | exact HB.out)) hb); clear HB; have HB := n0_; clear n0_; (try clear hb); (try clear hb2); (try clear hk); (try clear hi))))
                  go_ret
                  exact ⟨by first | rfl | (simp [errW_none, errW_some] <;> rfl) | (simp [*, errW_none, errW_some] <;> rfl), by repeat (first | (with_reducible first | exact HB.out | apply below_alloc | apply pw_below_drewN | apply below_drew1) | exact HB.out)⟩
                · rw [if_neg c12] at H
                  have c12b0 : decide (300 < ((rd_L1 l0 x24_1).length : Int)) = false := decide_eq_false c12
                  have c12b1 : decide (300 < (rd_L1 l0 x24_1).length) = false := decide_eq_false (by omega)
                  clear c12
                  have H' := Aside0.mk H
                  clear H
                  have p151 : 0 ≤ (x24_1 : Int) := of_decide_eq_true (by first | (with_reducible assumption) | assumption)
                  have q151 : x24_1 < (l0.length : Int) := of_decide_eq_true (by first | (with_reducible assumption) | assumption)
                  obtain ⟨ad151, A151_0, c151_0, e151, hx151_0, hl151_0, hi151_0⟩ := at_L1 HR0.out x24_1 p151 q151
                  cases e151
                  replace hx151_0 := (HB.out.cell (World.block_lt_of_cell? w _ hx151_0)).trans hx151_0
                  have HR151_0 := Aside0.mk hi151_0
                  have HC151_0 := Aside0.mk hl151_0
                  clear hi151_0 hl151_0
                  replace p151 := eq_true p151
                  replace q151 := eq_true q151
                  go_wp2
                  repeat (go_quiet (fail); try go_wp2)
                  go_roundg k1
                  case measure => have := HK1.out; omega
                  case rel => exact ⟨(wrap64 (x24_1 + 1)), (by first | rfl | (simp; done) | (simp [*]; done)), H', ⟨by have := HK1.out; omega⟩, ⟨by repeat (first | (with_reducible first | exact HB.out | apply below_alloc | apply pw_below_drewN | apply below_drew1) | exact HB.out)⟩⟩
            · rw [if_neg c8] at H
              exact absurd H (by simp)
          · rw [if_neg c7] at H
            exact absurd H (by simp)
        · rw [if_neg c6] at H
          have c6b0 : decide (x24_1 < (l0.length : Int)) = false := decide_eq_false c6
          clear c6
          replace H := Option.bind_eq_some_iff.mp H
          obtain ⟨⟨t154, t155, t156⟩, A150, H⟩ := H
          replace H : (if t156 = true then (merkhetlaw06_FrameCuts.l1 k1 l0 t154 (mn (wrap64 (a1)) (t154.length : Int)) 0 0 t155 (t155.length : Int) 0) else (some false)) = some r := H
          have A15 := Aside0.mk A150
          clear A150
          by_cases c16 : t156 = true
          · subst c16
            have H1 : (merkhetlaw06_FrameCuts.l1 k1 l0 t154 (mn (wrap64 (a1)) (t154.length : Int)) 0 0 t155 (t155.length : Int) 0) = some r := by rw [if_pos rfl] at H; exact H
            clear H
            have H := H1
            clear H1
            obtain ⟨ji17, hji17⟩ : ∃ j_ : Int, (mn (wrap64 (a1)) (t154.length : Int)) = j_ := ⟨_, rfl⟩
            replace H : (merkhetlaw06_FrameCuts.l1 k1 l0 t154 ji17 0 0 t155 (t155.length : Int) 0) = some r := by first | (rw [hji17] at H; exact H) | (simp only [hji17] at H ⊢; exact H)
            (try rw [hji17] at A15)
            have hji17_ : (if (t154.length : Int) < (wrap64 (a1)) then (t154.length : Int) else (wrap64 (a1))) = ji17 := hji17
            have H' := Aside0.mk H
            clear H
            go_wp2_with (first | (go_at_call 27; (with_reducible refine (merkhetlaw06_laid.calls k1 _ _ l0 t154 t155 true _ ?side1 ?side2 A15.out).mono ?_); (case side1 => repeat (first | exact (Kd.C_below HR0.out HB.out) | (with_reducible refine Kd.C_alloc ?_ _) | (with_reducible refine Kd.C_drewN ?_ _) | (with_reducible refine Kd.C_drew ?_))); (case side2 => exact HC0.out); rintro e w18 ⟨v157, v159, rfl, ho0, ho1, hb⟩; have n0_ := Aside0.mk (Kd.R_lower ho0 (below_size (by repeat (first | (with_reducible first | exact HB.out | apply below_alloc | apply pw_below_drewN | apply below_drew1) | exact HB.out)))); have n1_ := Aside0.mk (Kd.R_lower ho1 (below_size (by repeat (first | (with_reducible first | exact HB.out | apply below_alloc | apply pw_below_drewN | apply below_drew1) | exact HB.out)))); have n2_ := Aside0.mk (below_step (by repeat (first | (with_reducible first | exact HB.out | apply below_alloc | apply pw_below_drewN | apply below_drew1) | exact HB.out)) hb); clear HB; have HO158 := n0_; have HO160 := n1_; have HB := n2_; clear n0_ n1_ n2_; (try clear hb); (try clear hb2); (try clear hk); (try clear hi); (try clear ho0); (try clear ho1); obtain ⟨Ao19, co19, eo19⟩ := Kd.R_slice HO158.out; subst eo19; obtain ⟨Ao20, co20, eo20⟩ := Kd.R_slice HO160.out; subst eo20))
            repeat (go_quiet (first | (go_at_call 27; (with_reducible refine (merkhetlaw06_laid.calls k1 _ _ l0 t154 t155 true _ ?side1 ?side2 A15.out).mono ?_); (case side1 => repeat (first | exact (Kd.C_below HR0.out HB.out) | (with_reducible refine Kd.C_alloc ?_ _) | (with_reducible refine Kd.C_drewN ?_ _) | (with_reducible refine Kd.C_drew ?_))); (case side2 => exact HC0.out); rintro e w18 ⟨v157, v159, rfl, ho0, ho1, hb⟩; have n0_ := Aside0.mk (Kd.R_lower ho0 (below_size (by repeat (first | (with_reducible first | exact HB.out | apply below_alloc | apply pw_below_drewN | apply below_drew1) | exact HB.out)))); have n1_ := Aside0.mk (Kd.R_lower ho1 (below_size (by repeat (first | (with_reducible first | exact HB.out | apply below_alloc | apply pw_below_drewN | apply below_drew1) | exact HB.out)))); have n2_ := Aside0.mk (below_step (by repeat (first | (with_reducible first | exact HB.out | apply below_alloc | apply pw_below_drewN | apply below_drew1) | exact HB.out)) hb); clear HB; have HO158 := n0_; have HO160 := n1_; have HB := n2_; clear n0_ n1_ n2_; (try clear hb); (try clear hb2); (try clear hk); (try clear hi); (try clear ho0); (try clear ho1); obtain ⟨Ao19, co19, eo19⟩ := Kd.R_slice HO158.out; subst eo19; obtain ⟨Ao20, co20, eo20⟩ := Kd.R_slice HO160.out; subst eo20)); try go_wp2_with (first | (go_at_call 27; (with_reducible refine (merkhetlaw06_laid.calls k1 _ _ l0 t154 t155 true _ ?side1 ?side2 A15.out).mono ?_); (case side1 => repeat (first | exact (Kd.C_below HR0.out HB.out) | (with_reducible refine Kd.C_alloc ?_ _) | (with_reducible refine Kd.C_drewN ?_ _) | (with_reducible refine Kd.C_drew ?_))); (case side2 => exact HC0.out); rintro e w18 ⟨v157, v159, rfl, ho0, ho1, hb⟩; have n0_ := Aside0.mk (Kd.R_lower ho0 (below_size (by repeat (first | (with_reducible first | exact HB.out | apply below_alloc | apply pw_below_drewN | apply below_drew1) | exact HB.out)))); have n1_ := Aside0.mk (Kd.R_lower ho1 (below_size (by repeat (first | (with_reducible first | exact HB.out | apply below_alloc | apply pw_below_drewN | apply below_drew1) | exact HB.out)))); have n2_ := Aside0.mk (below_step (by repeat (first | (with_reducible first | exact HB.out | apply below_alloc | apply pw_below_drewN | apply below_drew1) | exact HB.out)) hb); clear HB; have HO158 := n0_; have HO160 := n1_; have HB := n2_; clear n0_ n1_ n2_; (try clear hb); (try clear hb2); (try clear hk); (try clear hi); (try clear ho0); (try clear ho1); obtain ⟨Ao19, co19, eo19⟩ := Kd.R_slice HO158.out; subst eo19; obtain ⟨Ao20, co20, eo20⟩ := Kd.R_slice HO160.out; subst eo20)))
            go_loopg [11, 12, 53] k1 (fun kq v11 v12 v53 w' => ∃ (x11_2 : Int) (x12_2 : Int) (x53_2 : Int), v11 = .int .i64 x11_2 ∧ v12 = .int .i64 x12_2 ∧ v53 = .int .i64 x53_2 ∧ Aside0 (merkhetlaw06_FrameCuts.l1 kq l0 t154 ji17 x11_2 x12_2 t155 (t155.length : Int) x53_2 = some r) ∧ Aside0 (kq ≤ k1) ∧ Aside0 (Kd.R (Kd.int .u8) 5 w' w.heap.size (fun _ => True) (.slice Ao19 t154.length co19) t154) ∧ Aside0 (Kd.R (Kd.int .i64) 3 w' w.heap.size (fun _ => True) (.slice Ao20 t155.length co20) t155) ∧ Aside0 (Below w.heap.size w w'))
            case atStart => exact ⟨(0), (0), (0), (by first | rfl | (simp; done) | (simp [*]; done)), (by first | rfl | (simp; done) | (simp [*]; done)), (by first | rfl | (simp; done) | (simp [*]; done)), H', ⟨Nat.le_refl _⟩, ⟨by (with_reducible repeat (first | apply Kd.R_alloc | apply Kd.R_drewN | apply Kd.R_drew)); exact HO158.out⟩, ⟨by (with_reducible repeat (first | apply Kd.R_alloc | apply Kd.R_drewN | apply Kd.R_drew)); exact HO160.out⟩, ⟨by repeat (first | (with_reducible first | exact HB.out | apply below_alloc | apply pw_below_drewN | apply below_drew1) | exact HB.out)⟩⟩
            case round =>
              clear H'
              try clear c1
              try clear p1
              try clear q1
              try clear hx1
              try clear p2
              try clear c3
              try clear c3b0
              try clear c3b1
              try clear c6
              try clear c6b0
              try clear p6
              try clear c7
              try clear c7b0
              try clear c8
              try clear c8b0
              try clear c9
              try clear c9b0
              try clear c9b1
              try clear c12
              try clear c12b0
              try clear c12b1
              try clear c15
              try clear p15
              try clear q15
              try clear hx15
              try clear c16
              try clear hx151_0
              try clear p151
              try clear p2
              try clear q151
              obtain ⟨x11_2, x12_2, x53_2, rfl, rfl, rfl, HA, HK2, HO_7, HO_51, HB⟩ := hrel
              cases gk with
              | zero => exact absurd HA.out (by simp [merkhetlaw06_FrameCuts.l1])
              | succ k2 =>
                have H := HA.out
                clear HA
                simp only [merkhetlaw06_FrameCuts.l1] at H
                by_cases c21 : x53_2 < (t155.length : Int)
                · rw [if_pos c21] at H
                  have c21b0 : decide (x53_2 < (t155.length : Int)) = true := decide_eq_true c21
                  clear c21
                  by_cases c22 : 0 ≤ x53_2
                  · rw [if_pos c22] at H
                    have c22b0 : decide (0 ≤ x53_2) = true := decide_eq_true c22
                    clear c22
                    by_cases c23 : x53_2 < (t155.length : Int)
                    · rw [if_pos c23] at H
                      have c23b0 : decide (x53_2 < (t155.length : Int)) = true := decide_eq_true c23
                      clear c23
                      by_cases c24 : (rd t155 x53_2) ≤ ji17
                      · rw [if_pos c24] at H
                        have c24b0 : decide ((rd t155 x53_2) ≤ ji17) = true := decide_eq_true c24
                        clear c24
                        have H' := Aside0.mk H
                        clear H
                        have p161 : 0 ≤ (x53_2 : Int) := of_decide_eq_true (by first | (with_reducible assumption) | assumption)
                        have q161 : x53_2 < (t155.length : Int) := of_decide_eq_true (by first | (with_reducible assumption) | assumption)
                        obtain ⟨ad161, e161, hx161_0⟩ := Kd.at_int (Kd.R_reads' HO_51.out).2.2 x53_2 p161 q161
                        cases e161
                        replace p161 := eq_true p161
                        replace q161 := eq_true q161
                        go_wp2
                        repeat (go_quiet (fail); try go_wp2)
                        go_roundg k2
                        case measure => have := HK1.out; have := HK2.out; omega
                        case rel => exact ⟨(wrap64 (x11_2 + 1)), (rd t155 x53_2), (wrap64 (x53_2 + 1)), (by first | rfl | (simp; done) | (simp [*]; done)), (by first | rfl | (simp; done) | (simp [*]; done)), (by first | rfl | (simp; done) | (simp [*]; done)), H', ⟨by have := HK1.out; have := HK2.out; omega⟩, ⟨by (with_reducible repeat (first | apply Kd.R_alloc | apply Kd.R_drewN | apply Kd.R_drew)); exact HO_7.out⟩, ⟨by (with_reducible repeat (first | apply Kd.R_alloc | apply Kd.R_drewN | apply Kd.R_drew)); exact HO_51.out⟩, ⟨by repeat (first | (with_reducible first | exact HB.out | apply below_alloc | apply pw_below_drewN | apply below_drew1) | exact HB.out)⟩⟩
                      · rw [if_neg c24] at H
                        have c24b0 : decide ((rd t155 x53_2) ≤ ji17) = false := decide_eq_false c24
                        clear c24
                        have H' := Aside0.mk H
                        clear H
                        have p161 : 0 ≤ (x53_2 : Int) := of_decide_eq_true (by first | (with_reducible assumption) | assumption)
                        have q161 : x53_2 < (t155.length : Int) := of_decide_eq_true (by first | (with_reducible assumption) | assumption)
                        obtain ⟨ad161, e161, hx161_0⟩ := Kd.at_int (Kd.R_reads' HO_51.out).2.2 x53_2 p161 q161
                        cases e161
                        replace p161 := eq_true p161
                        replace q161 := eq_true q161
                        go_wp2
                        repeat (go_quiet (fail); try go_wp2)
                        go_roundg k2
                        case measure => have := HK1.out; have := HK2.out; omega
                        case rel => exact ⟨(x11_2), (x12_2), (wrap64 (x53_2 + 1)), (by first | rfl | (simp; done) | (simp [*]; done)), (by first | rfl | (simp; done) | (simp [*]; done)), (by first | rfl | (simp; done) | (simp [*]; done)), H', ⟨by have := HK1.out; have := HK2.out; omega⟩, ⟨by (with_reducible repeat (first | apply Kd.R_alloc | apply Kd.R_drewN | apply Kd.R_drew)); exact HO_7.out⟩, ⟨by (with_reducible repeat (first | apply Kd.R_alloc | apply Kd.R_drewN | apply Kd.R_drew)); exact HO_51.out⟩, ⟨by repeat (first | (with_reducible first | exact HB.out | apply below_alloc | apply pw_below_drewN | apply below_drew1) | exact HB.out)⟩⟩
                    · rw [if_neg c23] at H
                      exact absurd H (by simp)
                  · rw [if_neg c22] at H
                    exact absurd H (by simp)
                · rw [if_neg c21] at H
                  have c21b0 : decide (x53_2 < (t155.length : Int)) = false := decide_eq_false c21
                  clear c21
                  by_cases c25 : 0 ≤ ji17
                  · rw [if_pos c25] at H
                    have c25b0 := eq_true c25
                    have c25b1 : decide (0 ≤ ji17) = true := decide_eq_true c25
                    clear c25
                    by_cases c26 : ji17 ≤ (t154.length : Int)
                    · rw [if_pos c26] at H
                      have c26b0 := eq_true c26
                      have c26b1 : decide (ji17 ≤ (t154.length : Int)) = true := decide_eq_true c26
                      clear c26
                      obtain ⟨y162, hy162⟩ : ∃ y_ : List Int, y_ = (t154.take (ji17 : Int).toNat) := ⟨_, rfl⟩
                      replace H : ((frame_All.f k2 y162 0 99).bind fun bt166 => (if (bt166.1.length : Int) = x11_2 then (merkhetlaw06_FrameCuts.j2 k2 l0 bt166.1 (bt166.2 != x12_2)) else (merkhetlaw06_FrameCuts.j2 k2 l0 bt166.1 true))) = some r := by first | (rw [hy162]; with_reducible exact H) | (have H2_ := (Option.bind_some _ _).symm.trans H; rw [hy162]; with_reducible exact H2_) | (have H2_ := (Option.bind_some _ _).symm.trans H; with_reducible exact H2_) | with_reducible exact H | (rw [hy162]; exact H) | exact H
                      have Ny162 := Aside0.mk hy162
                      clear hy162
                      replace H := Option.bind_eq_some_iff.mp H
                      obtain ⟨⟨t166, t167⟩, A270, H⟩ := H
                      replace H : (if (t166.length : Int) = x11_2 then (merkhetlaw06_FrameCuts.j2 k2 l0 t166 (t167 != x12_2)) else (merkhetlaw06_FrameCuts.j2 k2 l0 t166 true)) = some r := H
                      have A27 := Aside0.mk A270
                      clear A270
                      have HC28 := Aside0.mk H
                      clear H
                      have q29 : (ji17 : Int) ≤ ((t154.length : Int) : Int) := of_decide_eq_true (by first | (with_reducible assumption) | assumption)
                      obtain ⟨i029, hi029, _, hsz29, _⟩ := info_parts info5
                      have hroom29 : t154.length ≤ co19 := (Kd.R_reads' HO_7.out).2.1
                      have hC29 : Kd.C (Kd.int .u8) _ Ao19 t154.length t154 := (Kd.R_reads' HO_7.out).2.2
                      have hcut29 := cut_to (P := Try.prog) 25 5 .i64 Try.underlying25 hi029 Ao19 t154.length co19 ji17 (of_decide_eq_true (by first | (with_reducible assumption) | assumption)) q29 hroom29
                      have hr29 := Kd.C_take (m := (ji17 : Int).toNat) hC29 (by omega)
                      have hy29 : y162.length = (ji17 : Int).toNat := (by rw [Ny162.out, List.length_take]; omega)
                      rw [← Ny162.out] at hr29
                      rw [← hy29] at hcut29
                      have HR165 := Aside0.mk hr29
                      have HC165 := Aside0.mk (show y162.length ≤ co19 from by omega)
                      clear hr29 hC29 hroom29 hi029 hsz29
                      have KY29 := Aside0.mk hy29
                      clear hy29
                      have KL29 := Aside0.mk (show (ji17 : Int).toNat ≤ t154.length from by omega)
                      replace q29 := eq_true q29
                      go_upto_region 21 with (first | (go_at_call 24; (with_reducible refine (frame_All.calls k2 _ _ y162 0 99 t166 t167 _ ?side1 ?side2 A27.out).mono ?_); (case side1 => repeat (first | exact (by repeat (first | (with_reducible exact HR165.out) | (with_reducible refine Kd.C_alloc ?_ _) | (with_reducible refine Kd.C_drewN ?_ _) | (with_reducible refine Kd.C_drew ?_) | exact HR165.out)) | (with_reducible refine Kd.C_alloc ?_ _) | (with_reducible refine Kd.C_drewN ?_ _) | (with_reducible refine Kd.C_drew ?_))); (case side2 => exact HC165.out); rintro e w30 ⟨v168, rfl, ho0, hb⟩; have n0_ := Aside0.mk (Kd.R_below (by (with_reducible repeat (first | apply Kd.R_alloc | apply Kd.R_drewN | apply Kd.R_drew)); exact HO_7.out) hb); have n1_ := Aside0.mk (Kd.R_below (by (with_reducible repeat (first | apply Kd.R_alloc | apply Kd.R_drewN | apply Kd.R_drew)); exact HO_51.out) hb); have n2_ := Aside0.mk (Kd.R_lower (Kd.R_new' ho0 (Kd.R_lt (by (with_reducible repeat (first | apply Kd.R_alloc | apply Kd.R_drewN | apply Kd.R_drew)); exact HO_7.out))) (below_size (by repeat (first | (with_reducible first | exact HB.out | apply below_alloc | apply pw_below_drewN | apply below_drew1) | exact HB.out)))); have n3_ := Aside0.mk (Kd.C_below (by repeat (first | (with_reducible exact HR165.out) | (with_reducible refine Kd.C_alloc ?_ _) | (with_reducible refine Kd.C_drewN ?_ _) | (with_reducible refine Kd.C_drew ?_) | exact HR165.out)) hb); have n4_ := Aside0.mk (below_step (by repeat (first | (with_reducible first | exact HB.out | apply below_alloc | apply pw_below_drewN | apply below_drew1) | exact HB.out)) hb); clear HO_7; clear HO_51; clear HR165; clear HB; have HO_7 := n0_; have HO_51 := n1_; have HO169 := n2_; have HR165 := n3_; have HB := n4_; clear n0_ n1_ n2_ n3_ n4_; (try clear hb); (try clear hb2); (try clear hk); (try clear hi); (try clear ho0)))
                      repeat (go_quiet (first | (go_at_call 24; (with_reducible refine (frame_All.calls k2 _ _ y162 0 99 t166 t167 _ ?side1 ?side2 A27.out).mono ?_); (case side1 => repeat (first | exact (by repeat (first | (with_reducible exact HR165.out) | (with_reducible refine Kd.C_alloc ?_ _) | (with_reducible refine Kd.C_drewN ?_ _) | (with_reducible refine Kd.C_drew ?_) | exact HR165.out)) | (with_reducible refine Kd.C_alloc ?_ _) | (with_reducible refine Kd.C_drewN ?_ _) | (with_reducible refine Kd.C_drew ?_))); (case side2 => exact HC165.out); rintro e w30 ⟨v168, rfl, ho0, hb⟩; have n0_ := Aside0.mk (Kd.R_below (by (with_reducible repeat (first | apply Kd.R_alloc | apply Kd.R_drewN | apply Kd.R_drew)); exact HO_7.out) hb); have n1_ := Aside0.mk (Kd.R_below (by (with_reducible repeat (first | apply Kd.R_alloc | apply Kd.R_drewN | apply Kd.R_drew)); exact HO_51.out) hb); have n2_ := Aside0.mk (Kd.R_lower (Kd.R_new' ho0 (Kd.R_lt (by (with_reducible repeat (first | apply Kd.R_alloc | apply Kd.R_drewN | apply Kd.R_drew)); exact HO_7.out))) (below_size (by repeat (first | (with_reducible first | exact HB.out | apply below_alloc | apply pw_below_drewN | apply below_drew1) | exact HB.out)))); have n3_ := Aside0.mk (Kd.C_below (by repeat (first | (with_reducible exact HR165.out) | (with_reducible refine Kd.C_alloc ?_ _) | (with_reducible refine Kd.C_drewN ?_ _) | (with_reducible refine Kd.C_drew ?_) | exact HR165.out)) hb); have n4_ := Aside0.mk (below_step (by repeat (first | (with_reducible first | exact HB.out | apply below_alloc | apply pw_below_drewN | apply below_drew1) | exact HB.out)) hb); clear HO_7; clear HO_51; clear HR165; clear HB; have HO_7 := n0_; have HO_51 := n1_; have HO169 := n2_; have HR165 := n3_; have HB := n4_; clear n0_ n1_ n2_ n3_ n4_; (try clear hb); (try clear hb2); (try clear hk); (try clear hi); (try clear ho0))); go_upto_region 21 with (first | (go_at_call 24; (with_reducible refine (frame_All.calls k2 _ _ y162 0 99 t166 t167 _ ?side1 ?side2 A27.out).mono ?_); (case side1 => repeat (first | exact (by repeat (first | (with_reducible exact HR165.out) | (with_reducible refine Kd.C_alloc ?_ _) | (with_reducible refine Kd.C_drewN ?_ _) | (with_reducible refine Kd.C_drew ?_) | exact HR165.out)) | (with_reducible refine Kd.C_alloc ?_ _) | (with_reducible refine Kd.C_drewN ?_ _) | (with_reducible refine Kd.C_drew ?_))); (case side2 => exact HC165.out); rintro e w30 ⟨v168, rfl, ho0, hb⟩; have n0_ := Aside0.mk (Kd.R_below (by (with_reducible repeat (first | apply Kd.R_alloc | apply Kd.R_drewN | apply Kd.R_drew)); exact HO_7.out) hb); have n1_ := Aside0.mk (Kd.R_below (by (with_reducible repeat (first | apply Kd.R_alloc | apply Kd.R_drewN | apply Kd.R_drew)); exact HO_51.out) hb); have n2_ := Aside0.mk (Kd.R_lower (Kd.R_new' ho0 (Kd.R_lt (by (with_reducible repeat (first | apply Kd.R_alloc | apply Kd.R_drewN | apply Kd.R_drew)); exact HO_7.out))) (below_size (by repeat (first | (with_reducible first | exact HB.out | apply below_alloc | apply pw_below_drewN | apply below_drew1) | exact HB.out)))); have n3_ := Aside0.mk (Kd.C_below (by repeat (first | (with_reducible exact HR165.out) | (with_reducible refine Kd.C_alloc ?_ _) | (with_reducible refine Kd.C_drewN ?_ _) | (with_reducible refine Kd.C_drew ?_) | exact HR165.out)) hb); have n4_ := Aside0.mk (below_step (by repeat (first | (with_reducible first | exact HB.out | apply below_alloc | apply pw_below_drewN | apply below_drew1) | exact HB.out)) hb); clear HO_7; clear HO_51; clear HR165; clear HB; have HO_7 := n0_; have HO_51 := n1_; have HO169 := n2_; have HR165 := n3_; have HB := n4_; clear n0_ n1_ n2_ n3_ n4_; (try clear hb); (try clear hb2); (try clear hk); (try clear hi); (try clear ho0))))
                      (try simp only [Act.put, List.setIfInBounds_toArray, List.set_cons_zero, List.set_cons_succ])
                      go_cut [79] (fun v79 wc => ∃ (kq : Nat) (x79_27 : Bool), v79 = .bool x79_27 ∧ Aside0 (merkhetlaw06_FrameCuts.j2 kq l0 t166 x79_27 = some r) ∧ Aside0 (kq ≤ k2) ∧ Aside0 (Kd.R (Kd.slice 5 (Kd.int .u8)) 25 wc w.heap.size (fun _ => True) v168 t166) ∧ Aside0 (Kd.C (Kd.int .u8) wc Ao19 y162.length y162) ∧ Aside0 (Below w.heap.size w wc))
                      case first =>
                        have H := HC28.out
                        clear HC28
                        by_cases c31 : (t166.length : Int) = x11_2
                        · rw [if_pos c31] at H
                          have c31b0 : ((t166.length : Int) == x11_2) = true := beq_iff_eq.mpr c31
                          have c31b1 : ((t166.length : Int) != x11_2) = false := bne_eq_false_iff_eq.mpr c31
                          clear c31
                          (first | rw [c31b0] | (simp only [i64_w, i32_w]; rw [c31b0]) | skip)
                          have H' := Aside0.mk H
                          clear H
                          obtain ⟨Ao32, co32, eo32⟩ := Kd.R_slice HO169.out
                          subst eo32
                          go_wp2
                          repeat (go_quiet (fail); try go_wp2)
                          go_meet
                          case rel => exact ⟨_, ((t167 != x12_2)), (by first | rfl | (simp; done) | (simp [*]; done)), H', ⟨by have := HK1.out; have := HK2.out; first | omega | exact Nat.le_refl _⟩, ⟨by (with_reducible repeat (first | apply Kd.R_alloc | apply Kd.R_drewN | apply Kd.R_drew)); exact Kd.R_mono HO169.out (fun _ hk => trivial)⟩, ⟨by repeat (first | (with_reducible exact HR165.out) | (with_reducible refine Kd.C_alloc ?_ _) | (with_reducible refine Kd.C_drewN ?_ _) | (with_reducible refine Kd.C_drew ?_) | exact HR165.out)⟩, ⟨by repeat (first | (with_reducible first | exact HB.out | apply below_alloc | apply pw_below_drewN | apply below_drew1) | exact HB.out)⟩⟩
                        · rw [if_neg c31] at H
                          have c31b0 : ((t166.length : Int) == x11_2) = false := beq_eq_false_iff_ne.mpr c31
                          have c31b1 : ((t166.length : Int) != x11_2) = true := bne_iff_ne.mpr c31
                          (first | rw [c31b0] | (simp only [i64_w, i32_w]; rw [c31b0]) | skip)
                          have H' := Aside0.mk H
                          clear H
                          obtain ⟨Ao33, co33, eo33⟩ := Kd.R_slice HO169.out
                          subst eo33
                          go_wp2
                          repeat (go_quiet (fail); try go_wp2)
                          go_meet
                          case rel => exact ⟨_, (true), (by first | rfl | (simp; done) | (simp [*]; done)), H', ⟨by have := HK1.out; have := HK2.out; first | omega | exact Nat.le_refl _⟩, ⟨by (with_reducible repeat (first | apply Kd.R_alloc | apply Kd.R_drewN | apply Kd.R_drew)); exact Kd.R_mono HO169.out (fun _ hk => trivial)⟩, ⟨by repeat (first | (with_reducible exact HR165.out) | (with_reducible refine Kd.C_alloc ?_ _) | (with_reducible refine Kd.C_drewN ?_ _) | (with_reducible refine Kd.C_drew ?_) | exact HR165.out)⟩, ⟨by repeat (first | (with_reducible first | exact HB.out | apply below_alloc | apply pw_below_drewN | apply below_drew1) | exact HB.out)⟩⟩
                      case rest =>
                        clear HC28
                        try clear c1
                        try clear p1
                        try clear q1
                        try clear hx1
                        try clear c2
                        try clear p2
                        try clear q2
                        try clear c3
                        try clear c3b0
                        try clear c3b1
                        try clear c6
                        try clear c6b0
                        try clear p6
                        try clear c7
                        try clear c7b0
                        try clear c8
                        try clear c8b0
                        try clear c9
                        try clear c9b0
                        try clear c9b1
                        try clear c12
                        try clear c12b0
                        try clear c12b1
                        try clear c15
                        try clear p15
                        try clear q15
                        try clear hx15
                        try clear c16
                        try clear p16
                        try clear q16
                        try clear hx16
                        try clear c21
                        try clear c21b0
                        try clear c22
                        try clear c22b0
                        try clear c23
                        try clear c23b0
                        try clear c24
                        try clear c24b0
                        try clear c25
                        try clear c25b0
                        try clear c25b1
                        try clear c26
                        try clear c26b0
                        try clear c26b1
                        try clear q29
                        try clear c31
                        try clear c31b0
                        try clear c31b1
                        try clear hx151_0
                        try clear hx161_0
                        try clear p1
                        try clear p15
                        try clear p151
                        try clear p161
                        try clear p2
                        try clear p6
                        try clear q1
                        try clear q15
                        try clear q151
                        try clear q161
                        try clear q29
                        obtain ⟨kq, x79_27, rfl, HA, HJ27, HO_15, HR165, HB⟩ := hcut
                        cases kq with
                        | zero => exact absurd HA.out (by simp [merkhetlaw06_FrameCuts.j2])
                        | succ kj27 =>
                          have H := HA.out
                          clear HA
                          simp only [merkhetlaw06_FrameCuts.j2] at H
                          by_cases c34 : x79_27 = true
                          · subst c34
                            have H1 : (some false) = some r := by rw [if_pos rfl] at H; exact H
                            clear H
                            have H := H1
                            clear H1
                            obtain rfl := Option.some.inj H
                            go_wp2
                            repeat (go_quiet (fail); try go_wp2)
                            go_ret
                            exact ⟨by first | rfl | (simp [errW_none, errW_some] <;> rfl) | (simp only [← hji17]; first | rfl | (simp [errW_none, errW_some] <;> rfl)) | (simp [*, errW_none, errW_some] <;> rfl), by repeat (first | (with_reducible first | exact HB.out | apply below_alloc | apply pw_below_drewN | apply below_drew1) | exact HB.out)⟩
                          · replace c34 := Bool.eq_false_iff.mpr c34
                            subst c34
                            have H1 : (merkhetlaw06_FrameCuts.l2 kj27 l0 t166 (t166.length : Int) 0) = some r := by rw [if_neg (show ¬ (false = true) by decide)] at H; exact H
                            clear H
                            have H := H1
                            clear H1
                            have H' := Aside0.mk H
                            clear H
                            obtain ⟨Ao35, co35, eo35⟩ := Kd.R_slice HO_15.out
                            subst eo35
                            go_wp2
                            repeat (go_quiet (fail); try go_wp2)
                            go_loopg [82] kj27 (fun kq v82 w' => ∃ (x82_4 : Int), v82 = .int .i64 x82_4 ∧ Aside0 (merkhetlaw06_FrameCuts.l2 kq l0 t166 (t166.length : Int) x82_4 = some r) ∧ Aside0 (kq ≤ kj27) ∧ Aside0 (Kd.R (Kd.slice 5 (Kd.int .u8)) 25 w' w.heap.size (fun _ => True) (.slice Ao35 t166.length co35) t166) ∧ Aside0 (Kd.C (Kd.int .u8) w' Ao19 y162.length y162) ∧ Aside0 (Below w.heap.size w w'))
                            case atStart => exact ⟨(0), (by first | rfl | (simp; done) | (simp [*]; done)), H', ⟨Nat.le_refl _⟩, ⟨by (with_reducible repeat (first | apply Kd.R_alloc | apply Kd.R_drewN | apply Kd.R_drew)); exact HO_15.out⟩, ⟨by repeat (first | (with_reducible exact HR165.out) | (with_reducible refine Kd.C_alloc ?_ _) | (with_reducible refine Kd.C_drewN ?_ _) | (with_reducible refine Kd.C_drew ?_) | exact HR165.out)⟩, ⟨by repeat (first | (with_reducible first | exact HB.out | apply below_alloc | apply pw_below_drewN | apply below_drew1) | exact HB.out)⟩⟩
                            case round =>
                              clear H'
                              try clear c1
                              try clear p1
                              try clear q1
                              try clear hx1
                              try clear c2
                              try clear p2
                              try clear q2
                              try clear c3
                              try clear c3b0
                              try clear c3b1
                              try clear c6
                              try clear c6b0
                              try clear p6
                              try clear c7
                              try clear c7b0
                              try clear c8
                              try clear c8b0
                              try clear c9
                              try clear c9b0
                              try clear c9b1
                              try clear c12
                              try clear c12b0
                              try clear c12b1
                              try clear c15
                              try clear p15
                              try clear q15
                              try clear hx15
                              try clear c16
                              try clear p16
                              try clear q16
                              try clear hx16
                              try clear c21
                              try clear c21b0
                              try clear c22
                              try clear c22b0
                              try clear c23
                              try clear c23b0
                              try clear c24
                              try clear c24b0
                              try clear c25
                              try clear c25b0
                              try clear c25b1
                              try clear c26
                              try clear c26b0
                              try clear c26b1
                              try clear q29
                              try clear c31
                              try clear c31b0
                              try clear c31b1
                              try clear c34
                              try clear hx151_0
                              try clear hx161_0
                              try clear p1
                              try clear p15
                              try clear p151
                              try clear p16
                              try clear p161
                              try clear p2
                              try clear p6
                              try clear q1
                              try clear q15
                              try clear q151
                              try clear q16
                              try clear q161
                              try clear q2
                              try clear q29
                              obtain ⟨x82_4, rfl, HA, HK4, HO_15, HR165, HB⟩ := hrel
                              cases gk with
                              | zero => exact absurd HA.out (by simp [merkhetlaw06_FrameCuts.l2])
                              | succ k4 =>
                                have H := HA.out
                                clear HA
                                simp only [merkhetlaw06_FrameCuts.l2] at H
                                by_cases c36 : x82_4 < (t166.length : Int)
                                · rw [if_pos c36] at H
                                  have c36b0 : decide (x82_4 < (t166.length : Int)) = true := decide_eq_true c36
                                  clear c36
                                  by_cases c37 : 0 ≤ x82_4
                                  · rw [if_pos c37] at H
                                    have c37b0 : decide (0 ≤ x82_4) = true := decide_eq_true c37
                                    clear c37
                                    by_cases c38 : x82_4 < (t166.length : Int)
                                    · rw [if_pos c38] at H
                                      have c38b0 : decide (x82_4 < (t166.length : Int)) = true := decide_eq_true c38
                                      clear c38
                                      by_cases c39 : x82_4 < (l0.length : Int)
                                      · rw [if_pos c39] at H
                                        have c39b0 : decide (x82_4 < (l0.length : Int)) = true := decide_eq_true c39
                                        clear c39
                                        by_cases c40 : (strOfNums (rd_L1 t166 x82_4)).toList = (strOfNums (rd_L1 l0 x82_4)).toList
                                        · rw [if_pos c40] at H
                                          have c40b0 : ((strOfNums (rd_L1 t166 x82_4)).toList == (strOfNums (rd_L1 l0 x82_4)).toList) = true := beq_iff_eq.mpr c40
                                          have c40b1 : ((strOfNums (rd_L1 t166 x82_4)).toList != (strOfNums (rd_L1 l0 x82_4)).toList) = false := bne_eq_false_iff_eq.mpr c40
                                          clear c40
                                          have H' := Aside0.mk H
                                          clear H
                                          have p170 : 0 ≤ (x82_4 : Int) := of_decide_eq_true (by first | (with_reducible assumption) | assumption)
                                          have q170 : x82_4 < (t166.length : Int) := of_decide_eq_true (by first | (with_reducible assumption) | assumption)
                                          obtain ⟨ad170, A170_0, c170_0, e170, hx170_0, hl170_0, hi170_0⟩ := at_L1 (Kd.R_reads' HO_15.out).2.2 x82_4 p170 q170
                                          cases e170
                                          obtain ⟨ce170, hce170, hMe170, hcc170⟩ := Kd.R_getA HO_15.out [] x82_4 p170 (by first | exact q170 | exact of_decide_eq_true (by first | (with_reducible assumption) | assumption) | (have e_ := (Kd.R_reads' HO_15.out).1; omega))
                                          obtain ⟨ve170_0, rfl, ge170_0⟩ := hMe170
                                          have hv170_0 := hcc170 0 _ rfl
                                          rw [Nat.add_zero, show ((Kd.slice 5 (Kd.int .u8))).sz = 1 from rfl, Nat.mul_one] at hv170_0
                                          replace hv170_0 := Option.some.inj (hv170_0.symm.trans hx170_0)
                                          rw [hv170_0] at ge170_0
                                          have HL170_0 := Aside0.mk (show Kd.R (Kd.int .u8) 5 _ _ _ _ (rd_L1 t166 x82_4) from ge170_0)
                                          clear hv170_0 ge170_0
                                          clear hcc170 hce170
                                          have HR170_0 := Aside0.mk hi170_0
                                          have HC170_0 := Aside0.mk hl170_0
                                          clear hi170_0 hl170_0
                                          replace p170 := eq_true p170
                                          replace q170 := eq_true q170
                                          have hcv41 := Kd.C_string (P := Try.prog) (A := A170_0) (c := c170_0) Try.underlying25 Try.underlying5 Try.underlying9 (by repeat (first | (with_reducible exact HR170_0.out) | (with_reducible refine Kd.C_alloc ?_ _) | (with_reducible refine Kd.C_drewN ?_ _) | (with_reducible refine Kd.C_drew ?_) | exact HR170_0.out))
                                          have hcw41 := fun n_ : Nat => Kd.C_string (P := Try.prog) (A := A170_0) (c := c170_0) Try.underlying25 Try.underlying5 Try.underlying9 (Kd.C_drewN (by repeat (first | (with_reducible exact HR170_0.out) | (with_reducible refine Kd.C_alloc ?_ _) | (with_reducible refine Kd.C_drewN ?_ _) | (with_reducible refine Kd.C_drew ?_) | exact HR170_0.out)) n_)
                                          have p171 : 0 ≤ (x82_4 : Int) := of_decide_eq_true (by first | (with_reducible assumption) | assumption)
                                          have q171 : x82_4 < (l0.length : Int) := of_decide_eq_true (by first | (with_reducible assumption) | assumption)
                                          obtain ⟨ad171, A171_0, c171_0, e171, hx171_0, hl171_0, hi171_0⟩ := at_L1 HR0.out x82_4 p171 q171
                                          cases e171
                                          replace hx171_0 := (HB.out.cell (World.block_lt_of_cell? w _ hx171_0)).trans hx171_0
                                          have HR171_0 := Aside0.mk hi171_0
                                          have HC171_0 := Aside0.mk hl171_0
                                          clear hi171_0 hl171_0
                                          replace p171 := eq_true p171
                                          replace q171 := eq_true q171
                                          have hcv42 := Kd.C_string (P := Try.prog) (A := A171_0) (c := c171_0) Try.underlying25 Try.underlying5 Try.underlying9 (Kd.C_below HR171_0.out HB.out)
                                          have hcw42 := fun n_ : Nat => Kd.C_string (P := Try.prog) (A := A171_0) (c := c171_0) Try.underlying25 Try.underlying5 Try.underlying9 (Kd.C_drewN (Kd.C_below HR171_0.out HB.out) n_)
                                          go_wp2
                                          repeat (go_quiet (fail); try go_wp2)
                                          go_roundg k4
                                          case measure => have := HK1.out; have := HK2.out; have := HJ27.out; have := HK4.out; omega
                                          case rel => exact ⟨(wrap64 (x82_4 + 1)), (by first | rfl | (simp; done) | (simp [*]; done)), H', ⟨by have := HK1.out; have := HK2.out; have := HJ27.out; have := HK4.out; omega⟩, ⟨by (with_reducible repeat (first | apply Kd.R_alloc | apply Kd.R_drewN | apply Kd.R_drew)); exact HO_15.out⟩, ⟨by repeat (first | (with_reducible exact HR165.out) | (with_reducible refine Kd.C_alloc ?_ _) | (with_reducible refine Kd.C_drewN ?_ _) | (with_reducible refine Kd.C_drew ?_) | exact HR165.out)⟩, ⟨by repeat (first | (with_reducible first | exact HB.out | apply below_alloc | apply pw_below_drewN | apply below_drew1) | exact HB.out)⟩⟩
                                        · rw [if_neg c40] at H
                                          have c40b0 : ((strOfNums (rd_L1 t166 x82_4)).toList == (strOfNums (rd_L1 l0 x82_4)).toList) = false := beq_eq_false_iff_ne.mpr c40
                                          have c40b1 : ((strOfNums (rd_L1 t166 x82_4)).toList != (strOfNums (rd_L1 l0 x82_4)).toList) = true := bne_iff_ne.mpr c40
                                          obtain rfl := Option.some.inj H
                                          have p170 : 0 ≤ (x82_4 : Int) := of_decide_eq_true (by first | (with_reducible assumption) | assumption)
                                          have q170 : x82_4 < (t166.length : Int) := of_decide_eq_true (by first | (with_reducible assumption) | assumption)
                                          obtain ⟨ad170, A170_0, c170_0, e170, hx170_0, hl170_0, hi170_0⟩ := at_L1 (Kd.R_reads' HO_15.out).2.2 x82_4 p170 q170
                                          cases e170
                                          obtain ⟨ce170, hce170, hMe170, hcc170⟩ := Kd.R_getA HO_15.out [] x82_4 p170 (by first | exact q170 | exact of_decide_eq_true (by first | (with_reducible assumption) | assumption) | (have e_ := (Kd.R_reads' HO_15.out).1; omega))
                                          obtain ⟨ve170_0, rfl, ge170_0⟩ := hMe170
                                          have hv170_0 := hcc170 0 _ rfl
                                          rw [Nat.add_zero, show ((Kd.slice 5 (Kd.int .u8))).sz = 1 from rfl, Nat.mul_one] at hv170_0
                                          replace hv170_0 := Option.some.inj (hv170_0.symm.trans hx170_0)
                                          rw [hv170_0] at ge170_0
                                          have HL170_0 := Aside0.mk (show Kd.R (Kd.int .u8) 5 _ _ _ _ (rd_L1 t166 x82_4) from ge170_0)
                                          clear hv170_0 ge170_0
                                          clear hcc170 hce170
                                          have HR170_0 := Aside0.mk hi170_0
                                          have HC170_0 := Aside0.mk hl170_0
                                          clear hi170_0 hl170_0
                                          replace p170 := eq_true p170
                                          replace q170 := eq_true q170
                                          have hcv43 := Kd.C_string (P := Try.prog) (A := A170_0) (c := c170_0) Try.underlying25 Try.underlying5 Try.underlying9 (by repeat (first | (with_reducible exact HR170_0.out) | (with_reducible refine Kd.C_alloc ?_ _) | (with_reducible refine Kd.C_drewN ?_ _) | (with_reducible refine Kd.C_drew ?_) | exact HR170_0.out))
                                          have hcw43 := fun n_ : Nat => Kd.C_string (P := Try.prog) (A := A170_0) (c := c170_0) Try.underlying25 Try.underlying5 Try.underlying9 (Kd.C_drewN (by repeat (first | (with_reducible exact HR170_0.out) | (with_reducible refine Kd.C_alloc ?_ _) | (with_reducible refine Kd.C_drewN ?_ _) | (with_reducible refine Kd.C_drew ?_) | exact HR170_0.out)) n_)
                                          have p171 : 0 ≤ (x82_4 : Int) := of_decide_eq_true (by first | (with_reducible assumption) | assumption)
                                          have q171 : x82_4 < (l0.length : Int) := of_decide_eq_true (by first | (with_reducible assumption) | assumption)
                                          obtain ⟨ad171, A171_0, c171_0, e171, hx171_0, hl171_0, hi171_0⟩ := at_L1 HR0.out x82_4 p171 q171
                                          cases e171
                                          replace hx171_0 := (HB.out.cell (World.block_lt_of_cell? w _ hx171_0)).trans hx171_0
                                          have HR171_0 := Aside0.mk hi171_0
                                          have HC171_0 := Aside0.mk hl171_0
                                          clear hi171_0 hl171_0
                                          replace p171 := eq_true p171
                                          replace q171 := eq_true q171
                                          have hcv44 := Kd.C_string (P := Try.prog) (A := A171_0) (c := c171_0) Try.underlying25 Try.underlying5 Try.underlying9 (Kd.C_below HR171_0.out HB.out)
                                          have hcw44 := fun n_ : Nat => Kd.C_string (P := Try.prog) (A := A171_0) (c := c171_0) Try.underlying25 Try.underlying5 Try.underlying9 (Kd.C_drewN (Kd.C_below HR171_0.out HB.out) n_)
                                          go_wp2
                                          repeat (go_quiet (fail); try go_wp2)
                                          go_ret
                                          exact ⟨by first | rfl | (simp [errW_none, errW_some] <;> rfl) | (simp only [← hji17]; first | rfl | (simp [errW_none, errW_some] <;> rfl)) | (simp [*, errW_none, errW_some] <;> rfl), by repeat (first | (with_reducible first | exact HB.out | apply below_alloc | apply pw_below_drewN | apply below_drew1) | exact HB.out)⟩
                                      · rw [if_neg c39] at H
                                        exact absurd H (by simp)
                                    · rw [if_neg c38] at H
                                      exact absurd H (by simp)
                                  · rw [if_neg c37] at H
                                    exact absurd H (by simp)
                                · rw [if_neg c36] at H
                                  have c36b0 : decide (x82_4 < (t166.length : Int)) = false := decide_eq_false c36
                                  clear c36
                                  replace H := Option.bind_eq_some_iff.mp H
                                  obtain ⟨t172, A450, H⟩ := H
                                  replace H : (some t172) = some r := H
                                  have A45 := Aside0.mk A450
                                  clear A450
                                  obtain rfl := Option.some.inj H
                                  go_wp2_with (first | (go_at_call 19; (with_reducible refine (merkhetlaw06_fixed.calls k4  t172 _ A45.out).mono ?_); rintro e w46 ⟨rfl, hb⟩; have n0_ := Aside0.mk (Kd.R_below (by (with_reducible repeat (first | apply Kd.R_alloc | apply Kd.R_drewN | apply Kd.R_drew)); exact HO_15.out) hb); have n1_ := Aside0.mk (Kd.C_below (by repeat (first | (with_reducible exact HR165.out) | (with_reducible refine Kd.C_alloc ?_ _) | (with_reducible refine Kd.C_drewN ?_ _) | (with_reducible refine Kd.C_drew ?_) | exact HR165.out)) hb); have n2_ := Aside0.mk (below_step (by repeat (first | (with_reducible first | exact HB.out | apply below_alloc | apply pw_below_drewN | apply below_drew1) | exact HB.out)) hb); clear HO_15; clear HR165; clear HB; have HO_15 := n0_; have HR165 := n1_; have HB := n2_; clear n0_ n1_ n2_; (try clear hb); (try clear hb2); (try clear hk); (try clear hi)))
                                  repeat (go_quiet (first | (go_at_call 19; (with_reducible refine (merkhetlaw06_fixed.calls k4  t172 _ A45.out).mono ?_); rintro e w46 ⟨rfl, hb⟩; have n0_ := Aside0.mk (Kd.R_below (by (with_reducible repeat (first | apply Kd.R_alloc | apply Kd.R_drewN | apply Kd.R_drew)); exact HO_15.out) hb); have n1_ := Aside0.mk (Kd.C_below (by repeat (first | (with_reducible exact HR165.out) | (with_reducible refine Kd.C_alloc ?_ _) | (with_reducible refine Kd.C_drewN ?_ _) | (with_reducible refine Kd.C_drew ?_) | exact HR165.out)) hb); have n2_ := Aside0.mk (below_step (by repeat (first | (with_reducible first | exact HB.out | apply below_alloc | apply pw_below_drewN | apply below_drew1) | exact HB.out)) hb); clear HO_15; clear HR165; clear HB; have HO_15 := n0_; have HR165 := n1_; have HB := n2_; clear n0_ n1_ n2_; (try clear hb); (try clear hb2); (try clear hk); (try clear hi))); try go_wp2_with (first | (go_at_call 19; (with_reducible refine (merkhetlaw06_fixed.calls k4  t172 _ A45.out).mono ?_); rintro e w46 ⟨rfl, hb⟩; have n0_ := Aside0.mk (Kd.R_below (by (with_reducible repeat (first | apply Kd.R_alloc | apply Kd.R_drewN | apply Kd.R_drew)); exact HO_15.out) hb); have n1_ := Aside0.mk (Kd.C_below (by repeat (first | (with_reducible exact HR165.out) | (with_reducible refine Kd.C_alloc ?_ _) | (with_reducible refine Kd.C_drewN ?_ _) | (with_reducible refine Kd.C_drew ?_) | exact HR165.out)) hb); have n2_ := Aside0.mk (below_step (by repeat (first | (with_reducible first | exact HB.out | apply below_alloc | apply pw_below_drewN | apply below_drew1) | exact HB.out)) hb); clear HO_15; clear HR165; clear HB; have HO_15 := n0_; have HR165 := n1_; have HB := n2_; clear n0_ n1_ n2_; (try clear hb); (try clear hb2); (try clear hk); (try clear hi))))
                                  go_ret
                                  exact ⟨by first | rfl | (simp [errW_none, errW_some] <;> rfl) | (simp only [← hji17]; first | rfl | (simp [errW_none, errW_some] <;> rfl)) | (simp [*, errW_none, errW_some] <;> rfl), by repeat (first | (with_reducible first | exact HB.out | apply below_alloc | apply pw_below_drewN | apply below_drew1) | exact HB.out)⟩
                    · rw [if_neg c26] at H
                      exact absurd H (by simp)
                  · rw [if_neg c25] at H
                    exact absurd H (by simp)
          · replace c16 := Bool.eq_false_iff.mpr c16
            subst c16
            have H1 : (some false) = some r := by rw [if_neg (show ¬ (false = true) by decide)] at H; exact H
            clear H
            have H := H1
            clear H1
            obtain rfl := Option.some.inj H
            go_wp2_with (first | (go_at_call 27; (with_reducible refine (merkhetlaw06_laid.calls k1 _ _ l0 t154 t155 false _ ?side1 ?side2 A15.out).mono ?_); (case side1 => repeat (first | exact (Kd.C_below HR0.out HB.out) | (with_reducible refine Kd.C_alloc ?_ _) | (with_reducible refine Kd.C_drewN ?_ _) | (with_reducible refine Kd.C_drew ?_))); (case side2 => exact HC0.out); rintro e w47 ⟨v157, v159, rfl, ho0, ho1, hb⟩; have n0_ := Aside0.mk (Kd.R_lower ho0 (below_size (by repeat (first | (with_reducible first | exact HB.out | apply below_alloc | apply pw_below_drewN | apply below_drew1) | exact HB.out)))); have n1_ := Aside0.mk (Kd.R_lower ho1 (below_size (by repeat (first | (with_reducible first | exact HB.out | apply below_alloc | apply pw_below_drewN | apply below_drew1) | exact HB.out)))); have n2_ := Aside0.mk (below_step (by repeat (first | (with_reducible first | exact HB.out | apply below_alloc | apply pw_below_drewN | apply below_drew1) | exact HB.out)) hb); clear HB; have HO158 := n0_; have HO160 := n1_; have HB := n2_; clear n0_ n1_ n2_; (try clear hb); (try clear hb2); (try clear hk); (try clear hi); (try clear ho0); (try clear ho1)))
            repeat (go_quiet (first | (go_at_call 27; (with_reducible refine (merkhetlaw06_laid.calls k1 _ _ l0 t154 t155 false _ ?side1 ?side2 A15.out).mono ?_); (case side1 => repeat (first | exact (Kd.C_below HR0.out HB.out) | (with_reducible refine Kd.C_alloc ?_ _) | (with_reducible refine Kd.C_drewN ?_ _) | (with_reducible refine Kd.C_drew ?_))); (case side2 => exact HC0.out); rintro e w47 ⟨v157, v159, rfl, ho0, ho1, hb⟩; have n0_ := Aside0.mk (Kd.R_lower ho0 (below_size (by repeat (first | (with_reducible first | exact HB.out | apply below_alloc | apply pw_below_drewN | apply below_drew1) | exact HB.out)))); have n1_ := Aside0.mk (Kd.R_lower ho1 (below_size (by repeat (first | (with_reducible first | exact HB.out | apply below_alloc | apply pw_below_drewN | apply below_drew1) | exact HB.out)))); have n2_ := Aside0.mk (below_step (by repeat (first | (with_reducible first | exact HB.out | apply below_alloc | apply pw_below_drewN | apply below_drew1) | exact HB.out)) hb); clear HB; have HO158 := n0_; have HO160 := n1_; have HB := n2_; clear n0_ n1_ n2_; (try clear hb); (try clear hb2); (try clear hk); (try clear hi); (try clear ho0); (try clear ho1))); try go_wp2_with (first | (go_at_call 27; (with_reducible refine (merkhetlaw06_laid.calls k1 _ _ l0 t154 t155 false _ ?side1 ?side2 A15.out).mono ?_); (case side1 => repeat (first | exact (Kd.C_below HR0.out HB.out) | (with_reducible refine Kd.C_alloc ?_ _) | (with_reducible refine Kd.C_drewN ?_ _) | (with_reducible refine Kd.C_drew ?_))); (case side2 => exact HC0.out); rintro e w47 ⟨v157, v159, rfl, ho0, ho1, hb⟩; have n0_ := Aside0.mk (Kd.R_lower ho0 (below_size (by repeat (first | (with_reducible first | exact HB.out | apply below_alloc | apply pw_below_drewN | apply below_drew1) | exact HB.out)))); have n1_ := Aside0.mk (Kd.R_lower ho1 (below_size (by repeat (first | (with_reducible first | exact HB.out | apply below_alloc | apply pw_below_drewN | apply below_drew1) | exact HB.out)))); have n2_ := Aside0.mk (below_step (by repeat (first | (with_reducible first | exact HB.out | apply below_alloc | apply pw_below_drewN | apply below_drew1) | exact HB.out)) hb); clear HB; have HO158 := n0_; have HO160 := n1_; have HB := n2_; clear n0_ n1_ n2_; (try clear hb); (try clear hb2); (try clear hk); (try clear hi); (try clear ho0); (try clear ho1))))
            go_ret
            exact ⟨by first | rfl | (simp [errW_none, errW_some] <;> rfl) | (simp [*, errW_none, errW_some] <;> rfl), by repeat (first | (with_reducible first | exact HB.out | apply below_alloc | apply pw_below_drewN | apply below_drew1) | exact HB.out)⟩
def merkhetlaw06_FrameCuts.Pure : Prop := ∀ (l0 : List (List Int)) (a1 : Int), l0.length ≤ maxLen → (∀ x0_ ∈ l0, (∀ x1_ ∈ x0_, (Lit.int .u8 x1_).wf = true)) → (Lit.int .u16 a1).wf = true → ∃ k, merkhetlaw06_FrameCuts.f k l0 a1 = some true
end Go.Proofs.Ytdpodjgggicaoaa.FC
