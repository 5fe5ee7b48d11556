-- WRITTEN FOR THIS CLAIM by wip/tools/mp.py, a program of this project that drives the kit's print; the functions that the print does not take are this project's own texts.
import Derived.Test.YtdpodjgggicaoaaCWx0
import Derived.Test.YtdpodjgggicaoaaCWx1
import Derived.Test.YtdpodjgggicaoaaCWx2
import Derived.Test.YtdpodjgggicaoaaCWx4
import Derived.Test.YtdpodjgggicaoaaCWx5
namespace Go.Proofs.Ytdpodjgggicaoaa.CW
open Go.RowKit Go.Proofs.YtdpodjgggicaoaaW.PrintWords Go.Proofs.YtdpodjgggicaoaaW.PrintLast Go.Proofs.YtdpodjgggicaoaaW.PrintMore
attribute [local go_sem] max2_int min2_int max_two min_two max_three min_three max_four min_four   -- for this text's walks alone
set_option linter.unusedVariables false
set_option linter.unusedSimpArgs false

attribute [local go_sem high] eqA77
/-! ### wire_Get: function 29 -/
mutual
def wire_Get.j0 : Nat → Int → List Int → Bool → Option ((List (S77)) × Int)
  | 0, _, _, _ => none
  | k + 1, x4, x6, x20 => if x20 = true then (some (([] : List (S77)), 3)) else (if (x6.length : Int) < (wrap64 ((wrap64 (x4)) * 75)) then (some (([] : List (S77)), 2)) else (if (x6.length : Int) > (wrap64 ((wrap64 (x4)) * 75)) then (some (([] : List (S77)), 3)) else (wire_Get.l0 k x6 ([] : List (S77)))))
def wire_Get.l0 : Nat → List Int → List (S77) → Option ((List (S77)) × Int)
  | 0, _, _ => none
  | k + 1, x6, x7 => if (x6.length : Int) > 0 then (if 75 ≤ (x6.length : Int) then ((wire_get.f k (x6.take 75)).bind fun bt195 => (if bt195.2.2.2.2.2.2.2.2 = 0 then (if x7.length < 1759218604441 then (wire_Get.l0 k (x6.drop 75) (x7 ++ [(⟨bt195.1, bt195.2.1, bt195.2.2.1, bt195.2.2.2.1, bt195.2.2.2.2.1, bt195.2.2.2.2.2.1, bt195.2.2.2.2.2.2.1, bt195.2.2.2.2.2.2.2.1⟩ : S77)])) else (none)) else (some (([] : List (S77)), bt195.2.2.2.2.2.2.2.2)))) else (none)) else (some (x7, 0))
end
def wire_Get.f (k : Nat) (l0 : List Int) : Option ((List (S77)) × Int) := if (l0.length : Int) < 6 then (some (([] : List (S77)), 2)) else ((pack_Get.f k l0 4 2).bind fun bt178 => (if 6 ≤ (l0.length : Int) then ((some (l0.drop 6 : List Int)).bind fun y180 => (if 4 ≤ (l0.length : Int) then ((some (l0.take 4 : List Int)).bind fun y185 => (if (strOfNums y185).toList = ([83, 80, 65, 78] : List UInt8) then (if bt178.1 = 0 then (wire_Get.j0 k bt178.1 y180 (bt178.1 == 0)) else (wire_Get.j0 k bt178.1 y180 (decide (bt178.1 > 32)))) else (wire_Get.j0 k bt178.1 y180 ((strOfNums y185).toList != ([83, 80, 65, 78] : List UInt8))))) else (none))) else (none)))
theorem wire_Get.mono_l : ∀ k, (∀ y0 y1 y2, LeO (wire_Get.j0 k y0 y1 y2) (wire_Get.j0 (k + 1) y0 y1 y2)) ∧ (∀ y0 y1, LeO (wire_Get.l0 k y0 y1) (wire_Get.l0 (k + 1) y0 y1))
  | 0 => ⟨fun _ _ _ r h => by simp [wire_Get.j0] at h, fun _ _ r h => by simp [wire_Get.l0] at h⟩
  | k + 1 => by
    obtain ⟨ih0, ih1⟩ := wire_Get.mono_l k
    refine ⟨?_, ?_⟩
    · intro y0 y1 y2
      unfold wire_Get.j0
      repeat' first
      | (with_reducible exact ih0 _ _ _)
      | (with_reducible exact ih1 _ _)
      | (with_reducible exact pack_Get.mono _ _ _ _)
      | (with_reducible exact wire_get.mono _ _)
      | (with_reducible exact LeO.refl _)
      | (with_reducible exact LeO.none _)
      | (with_reducible refine LeO.ite ?_ ?_)
      | (with_reducible refine LeO.bind ?_ (fun _ => ?_))
      | exact ih0 _ _ _
      | exact ih1 _ _
      | exact pack_Get.mono _ _ _ _
      | exact wire_get.mono _ _
      | exact LeO.none _
      | refine LeO.ite ?_ ?_
      | refine LeO.bind ?_ (fun _ => ?_)
    · intro y0 y1
      unfold wire_Get.l0
      repeat' first
      | (with_reducible exact ih0 _ _ _)
      | (with_reducible exact ih1 _ _)
      | (with_reducible exact pack_Get.mono _ _ _ _)
      | (with_reducible exact wire_get.mono _ _)
      | (with_reducible exact LeO.refl _)
      | (with_reducible exact LeO.none _)
      | (with_reducible refine LeO.ite ?_ ?_)
      | (with_reducible refine LeO.bind ?_ (fun _ => ?_))
      | exact ih0 _ _ _
      | exact ih1 _ _
      | exact pack_Get.mono _ _ _ _
      | exact wire_get.mono _ _
      | exact LeO.none _
      | refine LeO.ite ?_ ?_
      | refine LeO.bind ?_ (fun _ => ?_)
theorem wire_Get.mono : ∀ a0 k, LeO (wire_Get.f k a0) (wire_Get.f (k + 1) a0) := by
  intro a0 k
  obtain ⟨ih0, ih1⟩ := wire_Get.mono_l k
  unfold wire_Get.f
  repeat' first
      | (with_reducible exact ih0 _ _ _)
      | (with_reducible exact ih1 _ _)
      | (with_reducible exact pack_Get.mono _ _ _ _)
      | (with_reducible exact wire_get.mono _ _)
      | (with_reducible exact LeO.refl _)
      | (with_reducible exact LeO.none _)
      | (with_reducible refine LeO.ite ?_ ?_)
      | (with_reducible refine LeO.bind ?_ (fun _ => ?_))
      | exact ih0 _ _ _
      | exact ih1 _ _
      | exact pack_Get.mono _ _ _ _
      | exact wire_get.mono _ _
      | exact LeO.none _
      | refine LeO.ite ?_ ?_
      | refine LeO.bind ?_ (fun _ => ?_)
set_option maxHeartbeats 8000000 in
set_option maxRecDepth 100000 in
theorem wire_Get.calls (k : Nat) (P0_ : Nat → Prop) (A0 : Option Addr) (c0 : Nat) (l0 : List Int) (r1 : List (S77)) (r2 : Int) (w : World) (hs0 : Kd.V (Kd.int .u8) 5 w w.heap.size (fun k_ => P0_ k_) (.slice A0 l0.length c0) l0) (h : wire_Get.f k l0 = some (r1, r2)) :
    Calls Try.prog 29 #[.slice A0 l0.length c0] w fun e w' => ∃ v0_ : Value, e = .returned (.tuple #[v0_, .int .i64 r2]) ∧ Kd.R k77 77 w' w.heap.size (fun k_ => (w.heap.size ≤ k_)) v0_ r1 ∧ Below w.heap.size w w' := by
  have hu77 := Try.underlying77
  have HO0 := Aside0.mk (show Kd.V (Kd.int .u8) 5 w w.heap.size (fun k_ => (P0_ k_ ∨ w.heap.size ≤ k_)) (.slice A0 l0.length c0) l0 from Kd.V_mono hs0 (fun k_ hk => .inl hk))
  have HB := Aside0.mk (Below.refl w.heap.size w)
  have H : (if (l0.length : Int) < 6 then (some (([] : List (S77)), 2)) else ((pack_Get.f k l0 4 2).bind fun bt178 => (if 6 ≤ (l0.length : Int) then ((some (l0.drop 6 : List Int)).bind fun y180 => (if 4 ≤ (l0.length : Int) then ((some (l0.take 4 : List Int)).bind fun y185 => (if (strOfNums y185).toList = ([83, 80, 65, 78] : List UInt8) then (if bt178.1 = 0 then (wire_Get.j0 k bt178.1 y180 (bt178.1 == 0)) else (wire_Get.j0 k bt178.1 y180 (decide (bt178.1 > 32)))) else (wire_Get.j0 k bt178.1 y180 ((strOfNums y185).toList != ([83, 80, 65, 78] : List UInt8))))) else (none))) else (none)))) = some (r1, r2) := h
  clear h
  by_cases c2 : (l0.length : Int) < 6
  · rw [if_pos c2] at H
    have c2b0 : decide ((l0.length : Int) < 6) = true := decide_eq_true c2
    have c2b1 : decide (l0.length < 6) = true := decide_eq_true (by omega)
    clear c2
    simp only [Option.some.injEq, Prod.mk.injEq] at H
    obtain ⟨rfl, rfl⟩ := H
    go_enter Try.func29, Try.ntmps29
    go_wp2
    go_ret2
    exact ⟨_, by first | rfl | (simp [errW_none, errW_some] <;> rfl) | (simp [*, errW_none, errW_some] <;> rfl), by first | exact Kd.R_nil _ _ _ _ _ | exact Kd.N_nil _ _ _ _ _ | exact Kd.V_nil _ _ _ _ _ | exact Kd.Q_nil _ _ _ _ _ | exact Kd.S_nil _ _ _ _ _, by repeat (first | (with_reducible first | exact HB.out | apply below_alloc | apply pw_below_drewN | apply below_drew1) | exact HB.out)⟩
  · rw [if_neg c2] at H
    have c2b0 : decide ((l0.length : Int) < 6) = false := decide_eq_false c2
    have c2b1 : decide (l0.length < 6) = false := decide_eq_false (by omega)
    clear c2
    replace H := Option.bind_eq_some_iff.mp H
    obtain ⟨⟨t178, t179⟩, A30, H⟩ := H
    replace H : (if 6 ≤ (l0.length : Int) then ((some (l0.drop 6 : List Int)).bind fun y180 => (if 4 ≤ (l0.length : Int) then ((some (l0.take 4 : List Int)).bind fun y185 => (if (strOfNums y185).toList = ([83, 80, 65, 78] : List UInt8) then (if t178 = 0 then (wire_Get.j0 k t178 y180 (t178 == 0)) else (wire_Get.j0 k t178 y180 (decide (t178 > 32)))) else (wire_Get.j0 k t178 y180 ((strOfNums y185).toList != ([83, 80, 65, 78] : List UInt8))))) else (none))) else (none)) = some (r1, r2) := H
    have A3 := Aside0.mk A30
    clear A30
    by_cases c4 : 6 ≤ (l0.length : Int)
    · rw [if_pos c4] at H
      have c4b0 := eq_true c4
      have c4b1 : decide (6 ≤ (l0.length : Int)) = true := decide_eq_true c4
      clear c4
      obtain ⟨y180, hy180⟩ : ∃ y_ : List Int, y_ = (l0.drop 6) := ⟨_, rfl⟩
      replace H : (if 4 ≤ (l0.length : Int) then ((some (l0.take 4 : List Int)).bind fun y185 => (if (strOfNums y185).toList = ([83, 80, 65, 78] : List UInt8) then (if t178 = 0 then (wire_Get.j0 k t178 y180 (t178 == 0)) else (wire_Get.j0 k t178 y180 (decide (t178 > 32)))) else (wire_Get.j0 k t178 y180 ((strOfNums y185).toList != ([83, 80, 65, 78] : List UInt8))))) else (none)) = some (r1, r2) := by first | (rw [hy180]; with_reducible exact H) | (have H2_ := (Option.bind_some _ _).symm.trans H; rw [hy180]; with_reducible exact H2_) | (have H2_ := (Option.bind_some _ _).symm.trans H; with_reducible exact H2_) | with_reducible exact H | (rw [hy180]; exact H) | exact H
      have Ny180 := Aside0.mk hy180
      clear hy180
      by_cases c5 : 4 ≤ (l0.length : Int)
      · rw [if_pos c5] at H
        have c5b0 := eq_true c5
        have c5b1 : decide (4 ≤ (l0.length : Int)) = true := decide_eq_true c5
        clear c5
        obtain ⟨y185, hy185⟩ : ∃ y_ : List Int, y_ = (l0.take 4) := ⟨_, rfl⟩
        replace H : (if (strOfNums y185).toList = ([83, 80, 65, 78] : List UInt8) then (if t178 = 0 then (wire_Get.j0 k t178 y180 (t178 == 0)) else (wire_Get.j0 k t178 y180 (decide (t178 > 32)))) else (wire_Get.j0 k t178 y180 ((strOfNums y185).toList != ([83, 80, 65, 78] : List UInt8)))) = some (r1, r2) := by first | (rw [hy185]; with_reducible exact H) | (have H2_ := (Option.bind_some _ _).symm.trans H; rw [hy185]; with_reducible exact H2_) | (have H2_ := (Option.bind_some _ _).symm.trans H; with_reducible exact H2_) | with_reducible exact H | (rw [hy185]; exact H) | exact H
        have Ny185 := Aside0.mk hy185
        clear hy185
        have HC6 := Aside0.mk H
        clear H
        go_enter Try.func29, Try.ntmps29
        go_upto_if 20 with (first | ((with_reducible refine gate_callee (f := 43) rfl ?_); refine goesL_ (some 15) rfl rfl Try.func43 (by kernel_rfl) rfl #[.slice A0 l0.length c0, .int .i64 4, .int .i64 2] rfl (by (try simp only [List.map_toArray, List.map_cons, List.map_nil]); first | done | rfl | (simp only [List.length_drop, List.length_take]; rfl)) ?_; (with_reducible refine (pack_Get.calls k _ _ l0 4 2 t178 t179 _ ?side1 ?side2 A3.out).mono ?_); (case side1 => repeat (first | exact (Kd.V_reads' HO0.out).2.2 | (with_reducible refine Kd.C_alloc ?_ _) | (with_reducible refine Kd.C_drewN ?_ _) | (with_reducible refine Kd.C_drew ?_))); (case side2 => exact (Kd.V_reads' HO0.out).2.1); rintro e w7 ⟨rfl, hb⟩; refine ⟨_, rfl, ?_⟩; have n0_ := Aside0.mk (Kd.V_below (by (with_reducible repeat (first | apply Kd.V_alloc | apply Kd.V_drewN | apply Kd.V_drew)); exact HO0.out) hb); have n1_ := Aside0.mk (below_step (by repeat (first | (with_reducible first | exact HB.out | apply below_alloc | apply pw_below_drewN | apply below_drew1) | exact HB.out)) hb); clear HO0; clear HB; have HO0 := n0_; have HB := n1_; clear n0_ n1_; (try clear hb); (try clear hb2); (try clear hk); (try clear hi); have q8 : (6 : Int) ≤ ((l0.length : Int) : Int) := of_decide_eq_true (by first | (with_reducible assumption) | assumption); obtain ⟨i08, hi08, _, hsz8, _⟩ := info_parts info5; have hroom8 : l0.length ≤ c0 := (Kd.V_reads' HO0.out).2.1; have hC8 : Kd.F (Kd.int .u8) _ _ A0 l0.length l0 := (Kd.V_at (base := w.heap.size) HO0.out).2.2; have hcut8 := cut_from (P := Try.prog) 25 5 .i64 Try.underlying25 hi08 1 hsz8 A0 l0.length c0 6 (by omega) q8; have hr8 := Kd.F_cut (m := (6 : Int).toNat) (c := c0) hC8 (by omega) hroom8; obtain ⟨A8, hA8⟩ : ∃ A1, A1 = (if c0 = (6 : Int).toNat then A0 else (A0 : Option Addr).map (·.add ((6 : Int).toNat * 1))) := ⟨_, rfl⟩; obtain ⟨c8, hc8⟩ : ∃ c1, c1 = c0 - (6 : Int).toNat := ⟨_, rfl⟩; have hy8 : y180.length = l0.length - (6 : Int).toNat := (by rw [Ny180.out, List.length_drop] <;> omega); rw [show (l0).drop (6 : Int).toNat = y180 from Ny180.out.symm] at hr8; replace hr8 : Kd.F (Kd.int .u8) _ _ A8 y180.length y180 := (by rw [hA8]; exact hr8); rw [← hy8, ← hA8, ← hc8] at hcut8; have HO184 := Aside0.mk (show Kd.V (Kd.int .u8) 5 _ w.heap.size _ (.slice A8 y180.length c8) y180 from Kd.V_mk (by rw [hy8, hc8]; exact Nat.sub_le_sub_right hroom8 _) hr8); have HC184 := Aside0.mk (show y180.length ≤ c8 from by rw [hy8, hc8]; exact Nat.sub_le_sub_right hroom8 _); clear hr8 hC8 hroom8 hi08 hsz8 hc8; have KY8 := Aside0.mk hy8; have KA8 := Aside0.mk hA8; clear hy8 hA8; replace q8 := eq_true q8; have q9 : (4 : Int) ≤ ((l0.length : Int) : Int) := of_decide_eq_true (by first | (with_reducible assumption) | assumption); obtain ⟨i09, hi09, _, hsz9, _⟩ := info_parts info5; have hroom9 : l0.length ≤ c0 := (Kd.V_reads' HO0.out).2.1; have hC9 : Kd.F (Kd.int .u8) _ _ A0 l0.length l0 := (Kd.V_at (base := w.heap.size) HO0.out).2.2; have hcut9 := cut_to (P := Try.prog) 25 5 .i64 Try.underlying25 hi09 A0 l0.length c0 4 (by omega) q9 hroom9; have hr9 := Kd.F_take (m := 4) hC9 (by omega); have hy9 : y185.length = (4 : Int).toNat := (by rw [Ny185.out, List.length_take]; omega); rw [← Ny185.out] at hr9; rw [← hy9] at hcut9; have HO189 := Aside0.mk (show Kd.V (Kd.int .u8) 5 _ w.heap.size _ (.slice A0 y185.length c0) y185 from Kd.V_mk (by omega) hr9); have HC189 := Aside0.mk (show y185.length ≤ c0 from by omega); clear hr9 hC9 hroom9 hi09 hsz9; have KY9 := Aside0.mk hy9; clear hy9; replace q9 := eq_true q9; have hcv10 := Kd.C_string (P := Try.prog) (A := A0) (c := c0) Try.underlying25 Try.underlying5 Try.underlying9 (Kd.V_reads' HO189.out).2.2))
        (try simp only [Act.put, List.setIfInBounds_toArray, List.set_cons_zero, List.set_cons_succ])
        go_cut [20] (fun v20 wc => ∃ (kq : Nat) (x20_5 : Bool), v20 = .bool x20_5 ∧ Aside0 (wire_Get.j0 kq t178 y180 x20_5 = some (r1, r2)) ∧ Aside0 (kq ≤ k) ∧ Aside0 (Kd.V (Kd.int .u8) 5 wc w.heap.size (fun k_ => (P0_ k_ ∨ w.heap.size ≤ k_)) (.slice A8 y180.length c8) y180) ∧ Aside0 (Below w.heap.size w wc))
        case first =>
          have H := HC6.out
          clear HC6
          by_cases c11 : (strOfNums y185).toList = ([83, 80, 65, 78] : List UInt8)
          · rw [if_pos c11] at H
            have c11b0 : ((strOfNums y185).toList == ([83, 80, 65, 78] : List UInt8)) = true := beq_iff_eq.mpr c11
            have c11b1 : ((strOfNums y185).toList != ([83, 80, 65, 78] : List UInt8)) = false := bne_eq_false_iff_eq.mpr c11
            clear c11
            (first | rw [c11b0] | (simp only [i64_w, i32_w]; rw [c11b0]) | skip)
            by_cases c12 : t178 = 0
            · rw [if_pos c12] at H
              have c12b0 : (t178 == 0) = true := beq_iff_eq.mpr c12
              have c12b1 : (t178 != 0) = false := bne_eq_false_iff_eq.mpr c12
              clear c12
              have H' := Aside0.mk H
              clear H
              go_wp2
              go_meet
              case rel => exact ⟨_, ((t178 == 0)), (by first | rfl | (simp; done) | (simp [*]; done)), H', ⟨by first | omega | exact Nat.le_refl _⟩, ⟨by (with_reducible repeat (first | apply Kd.V_alloc | apply Kd.V_drewN | apply Kd.V_drew)); exact HO184.out⟩, ⟨by repeat (first | (with_reducible first | exact HB.out | apply below_alloc | apply pw_below_drewN | apply below_drew1) | exact HB.out)⟩⟩
            · rw [if_neg c12] at H
              have c12b0 : (t178 == 0) = false := beq_eq_false_iff_ne.mpr c12
              have c12b1 : (t178 != 0) = true := bne_iff_ne.mpr c12
              have H' := Aside0.mk H
              clear H
              go_wp2
              go_meet
              case rel => exact ⟨_, (decide (t178 > 32)), (by first | rfl | (simp; done) | (simp [*]; done)), H', ⟨by first | omega | exact Nat.le_refl _⟩, ⟨by (with_reducible repeat (first | apply Kd.V_alloc | apply Kd.V_drewN | apply Kd.V_drew)); exact HO184.out⟩, ⟨by repeat (first | (with_reducible first | exact HB.out | apply below_alloc | apply pw_below_drewN | apply below_drew1) | exact HB.out)⟩⟩
          · rw [if_neg c11] at H
            have c11b0 : ((strOfNums y185).toList == ([83, 80, 65, 78] : List UInt8)) = false := beq_eq_false_iff_ne.mpr c11
            have c11b1 : ((strOfNums y185).toList != ([83, 80, 65, 78] : List UInt8)) = true := bne_iff_ne.mpr c11
            (first | rw [c11b0] | (simp only [i64_w, i32_w]; rw [c11b0]) | skip)
            have H' := Aside0.mk H
            clear H
            go_wp2
            go_meet
            case rel => exact ⟨_, (((strOfNums y185).toList != ([83, 80, 65, 78] : List UInt8))), (by first | rfl | (simp; done) | (simp [*]; done)), H', ⟨by first | omega | exact Nat.le_refl _⟩, ⟨by (with_reducible repeat (first | apply Kd.V_alloc | apply Kd.V_drewN | apply Kd.V_drew)); exact HO184.out⟩, ⟨by repeat (first | (with_reducible first | exact HB.out | apply below_alloc | apply pw_below_drewN | apply below_drew1) | exact HB.out)⟩⟩
        case rest =>
          clear HC6
          try clear c1
          try clear hcv1
          try clear c2
          try clear c2b0
          try clear c2b1
          try clear p2
          try clear c4
          try clear c4b0
          try clear c4b1
          try clear c5
          try clear c5b0
          try clear c5b1
          try clear c8
          try clear q8
          try clear q9
          try clear hcv10
          try clear c11
          try clear c11b0
          try clear c11b1
          try clear c12
          try clear c12b0
          try clear c12b1
          try clear q8
          try clear q9
          obtain ⟨kq, x20_5, rfl, HA, HJ5, HO_6, HB⟩ := hcut
          cases kq with
          | zero => exact absurd HA.out (by simp [wire_Get.j0])
          | succ kj5 =>
            have H := HA.out
            clear HA
            simp only [wire_Get.j0] at H
            by_cases c13 : x20_5 = true
            · subst c13
              have H1 : (some (([] : List (S77)), 3)) = some (r1, r2) := by rw [if_pos rfl] at H; exact H
              clear H
              have H := H1
              clear H1
              simp only [Option.some.injEq, Prod.mk.injEq] at H
              obtain ⟨rfl, rfl⟩ := H
              go_wp2
              go_ret2
              exact ⟨_, by first | rfl | (simp [errW_none, errW_some] <;> rfl) | (simp [*, errW_none, errW_some] <;> rfl), by first | exact Kd.R_nil _ _ _ _ _ | exact Kd.N_nil _ _ _ _ _ | exact Kd.V_nil _ _ _ _ _ | exact Kd.Q_nil _ _ _ _ _ | exact Kd.S_nil _ _ _ _ _, by repeat (first | (with_reducible first | exact HB.out | apply below_alloc | apply pw_below_drewN | apply below_drew1) | exact HB.out)⟩
            · replace c13 := Bool.eq_false_iff.mpr c13
              subst c13
              have H1 : (if (y180.length : Int) < (wrap64 ((wrap64 (t178)) * 75)) then (some (([] : List (S77)), 2)) else (if (y180.length : Int) > (wrap64 ((wrap64 (t178)) * 75)) then (some (([] : List (S77)), 3)) else (wire_Get.l0 kj5 y180 ([] : List (S77))))) = some (r1, r2) := by rw [if_neg (show ¬ (false = true) by decide)] at H; exact H
              clear H
              have H := H1
              clear H1
              by_cases c14 : (y180.length : Int) < (wrap64 ((wrap64 (t178)) * 75))
              · rw [if_pos c14] at H
                have c14b0 : decide ((y180.length : Int) < (wrap64 ((wrap64 (t178)) * 75))) = true := decide_eq_true c14
                clear c14
                simp only [Option.some.injEq, Prod.mk.injEq] at H
                obtain ⟨rfl, rfl⟩ := H
                go_wp2
                go_ret2
                exact ⟨_, by first | rfl | (simp [errW_none, errW_some] <;> rfl) | (simp [*, errW_none, errW_some] <;> rfl), by first | exact Kd.R_nil _ _ _ _ _ | exact Kd.N_nil _ _ _ _ _ | exact Kd.V_nil _ _ _ _ _ | exact Kd.Q_nil _ _ _ _ _ | exact Kd.S_nil _ _ _ _ _, by repeat (first | (with_reducible first | exact HB.out | apply below_alloc | apply pw_below_drewN | apply below_drew1) | exact HB.out)⟩
              · rw [if_neg c14] at H
                have c14b0 : decide ((y180.length : Int) < (wrap64 ((wrap64 (t178)) * 75))) = false := decide_eq_false c14
                clear c14
                by_cases c15 : (y180.length : Int) > (wrap64 ((wrap64 (t178)) * 75))
                · rw [if_pos c15] at H
                  have c15b0 : decide ((wrap64 ((wrap64 (t178)) * 75)) < (y180.length : Int)) = true := decide_eq_true c15
                  clear c15
                  simp only [Option.some.injEq, Prod.mk.injEq] at H
                  obtain ⟨rfl, rfl⟩ := H
                  go_wp2
                  go_ret2
                  exact ⟨_, by first | rfl | (simp [errW_none, errW_some] <;> rfl) | (simp [*, errW_none, errW_some] <;> rfl), by first | exact Kd.R_nil _ _ _ _ _ | exact Kd.N_nil _ _ _ _ _ | exact Kd.V_nil _ _ _ _ _ | exact Kd.Q_nil _ _ _ _ _ | exact Kd.S_nil _ _ _ _ _, by repeat (first | (with_reducible first | exact HB.out | apply below_alloc | apply pw_below_drewN | apply below_drew1) | exact HB.out)⟩
                · rw [if_neg c15] at H
                  have c15b0 : decide ((wrap64 ((wrap64 (t178)) * 75)) < (y180.length : Int)) = false := decide_eq_false c15
                  clear c15
                  have H' := Aside0.mk H
                  clear H
                  go_wp2
                  go_loopg [6, 7] kj5 (fun kq v6 v7 w' => ∃ (x6_2 : List Int) (x7_2 : List (S77)), Aside0 (wire_Get.l0 kq x6_2 x7_2 = some (r1, r2)) ∧ Aside0 (kq ≤ kj5) ∧ Aside0 (Kd.V (Kd.int .u8) 5 w' w.heap.size (fun k_ => (P0_ k_ ∨ w.heap.size ≤ k_) ∧ some k_ ≠ (v7 : Value).ownBlock) v6 x6_2) ∧ Aside0 (Kd.R k77 77 w' w.heap.size (fun k_ => (w.heap.size ≤ k_)) v7 x7_2) ∧ Aside0 (Below w.heap.size w w'))
                  case atStart => exact ⟨(y180), (([] : List (S77))), H', ⟨Nat.le_refl _⟩, ⟨by (with_reducible repeat (first | apply Kd.V_alloc | apply Kd.V_drewN | apply Kd.V_drew)); exact Kd.V_mono HO_6.out (fun _ hk => ⟨hk, (by simp [Value.ownBlock])⟩)⟩, ⟨by first | exact Kd.R_nil _ _ _ _ _ | exact Kd.N_nil _ _ _ _ _ | exact Kd.V_nil _ _ _ _ _ | exact Kd.Q_nil _ _ _ _ _ | exact Kd.S_nil _ _ _ _ _⟩, ⟨by repeat (first | (with_reducible first | exact HB.out | apply below_alloc | apply pw_below_drewN | apply below_drew1) | exact HB.out)⟩⟩
                  case round =>
                    clear H'
                    try clear c1
                    try clear hcv1
                    try clear c2
                    try clear c2b0
                    try clear c2b1
                    try clear p2
                    try clear c4
                    try clear c4b0
                    try clear c4b1
                    try clear c5
                    try clear c5b0
                    try clear c5b1
                    try clear p6
                    try clear c8
                    try clear q8
                    try clear q9
                    try clear hcv10
                    try clear c11
                    try clear c11b0
                    try clear c11b1
                    try clear c12
                    try clear c12b0
                    try clear c12b1
                    try clear c13
                    try clear c14
                    try clear c14b0
                    try clear c15
                    try clear c15b0
                    try clear p2
                    try clear q8
                    try clear q9
                    obtain ⟨x6_2, x7_2, HA, HK2, HO_6, HO_7, HB⟩ := hrel
                    cases gk with
                    | zero => exact absurd HA.out (by simp [wire_Get.l0])
                    | succ k2 =>
                      have H := HA.out
                      clear HA
                      simp only [wire_Get.l0] at H
                      by_cases c16 : (x6_2.length : Int) > 0
                      · rw [if_pos c16] at H
                        have c16b0 : decide (0 < (x6_2.length : Int)) = true := decide_eq_true c16
                        have c16b1 : decide (0 < x6_2.length) = true := decide_eq_true (by omega)
                        clear c16
                        by_cases c17 : 75 ≤ (x6_2.length : Int)
                        · rw [if_pos c17] at H
                          have c17b0 := eq_true c17
                          have c17b1 : decide (75 ≤ (x6_2.length : Int)) = true := decide_eq_true c17
                          clear c17
                          obtain ⟨y190, hy190⟩ : ∃ y_ : List Int, y_ = (x6_2.take 75) := ⟨_, rfl⟩
                          replace H : ((wire_get.f k2 y190).bind fun bt195 => (if bt195.2.2.2.2.2.2.2.2 = 0 then (if x7_2.length < 1759218604441 then (wire_Get.l0 k2 (x6_2.drop 75) (x7_2 ++ [(⟨bt195.1, bt195.2.1, bt195.2.2.1, bt195.2.2.2.1, bt195.2.2.2.2.1, bt195.2.2.2.2.2.1, bt195.2.2.2.2.2.2.1, bt195.2.2.2.2.2.2.2.1⟩ : S77)])) else (none)) else (some (([] : List (S77)), bt195.2.2.2.2.2.2.2.2)))) = some (r1, r2) := by first | (rw [hy190]; with_reducible exact H) | (have H2_ := (Option.bind_some _ _).symm.trans H; rw [hy190]; with_reducible exact H2_) | (have H2_ := (Option.bind_some _ _).symm.trans H; with_reducible exact H2_) | with_reducible exact H | (rw [hy190]; exact H) | exact H
                          have Ny190 := Aside0.mk hy190
                          clear hy190
                          replace H := Option.bind_eq_some_iff.mp H
                          obtain ⟨⟨t195, t196, t197, t198, t199, t200, t201, t202, t203⟩, A180, H⟩ := H
                          replace H : (if t203 = 0 then (if x7_2.length < 1759218604441 then (wire_Get.l0 k2 (x6_2.drop 75) (x7_2 ++ [(⟨t195, t196, t197, t198, t199, t200, t201, t202⟩ : S77)])) else (none)) else (some (([] : List (S77)), t203))) = some (r1, r2) := H
                          have A18 := Aside0.mk A180
                          clear A180
                          by_cases c19 : t203 = 0
                          · rw [if_pos c19] at H
                            have c19b0 : (t203 == 0) = true := beq_iff_eq.mpr c19
                            have c19b1 : (t203 != 0) = false := bne_eq_false_iff_eq.mpr c19
                            clear c19
                            by_cases c20 : x7_2.length < 1759218604441
                            · rw [if_pos c20] at H
                              have LMc20 := Aside0.mk c20
                              clear c20
                              obtain ⟨y205, hy205⟩ : ∃ y_ : List (S77), y_ = (x7_2 ++ [(⟨t195, t196, t197, t198, t199, t200, t201, t202⟩ : S77)]) := ⟨_, rfl⟩
                              replace H : (wire_Get.l0 k2 (x6_2.drop 75) y205) = some (r1, r2) := by first | (rw [hy205]; with_reducible exact H) | (have H2_ := (Option.bind_some _ _).symm.trans H; rw [hy205]; with_reducible exact H2_) | (have H2_ := (Option.bind_some _ _).symm.trans H; with_reducible exact H2_) | with_reducible exact H | (rw [hy205]; exact H) | exact H
                              have Ny205 := Aside0.mk hy205
                              clear hy205
                              have c21b0 := eq_true (of_decide_eq_true (by first | (with_reducible assumption) | assumption) : 75 ≤ (x6_2.length : Int))
                              obtain ⟨y208, hy208⟩ : ∃ y_ : List Int, y_ = (x6_2.drop 75) := ⟨_, rfl⟩
                              replace H : (wire_Get.l0 k2 y208 y205) = some (r1, r2) := by first | (rw [hy208]; with_reducible exact H) | (have H2_ := (Option.bind_some _ _).symm.trans H; rw [hy208]; with_reducible exact H2_) | (have H2_ := (Option.bind_some _ _).symm.trans H; with_reducible exact H2_) | with_reducible exact H | (rw [hy208]; exact H) | exact H
                              have Ny208 := Aside0.mk hy208
                              clear hy208
                              have H' := Aside0.mk H
                              clear H
                              obtain ⟨Ao22, co22, eo22⟩ := Kd.V_slice HO_6.out
                              subst eo22
                              have q23 : (75 : Int) ≤ ((x6_2.length : Int) : Int) := of_decide_eq_true (by first | (with_reducible assumption) | assumption)
                              obtain ⟨i023, hi023, _, hsz23, _⟩ := info_parts info5
                              have hroom23 : x6_2.length ≤ co22 := (Kd.V_reads' HO_6.out).2.1
                              have hC23 : Kd.F (Kd.int .u8) _ _ Ao22 x6_2.length x6_2 := (Kd.V_at (base := w.heap.size) HO_6.out).2.2
                              have hcut23 := cut_to (P := Try.prog) 25 5 .i64 Try.underlying25 hi023 Ao22 x6_2.length co22 75 (by omega) q23 hroom23
                              have hr23 := Kd.F_take (m := 75) hC23 (by omega)
                              have hy23 : y190.length = (75 : Int).toNat := (by rw [Ny190.out, List.length_take]; omega)
                              rw [← Ny190.out] at hr23
                              rw [← hy23] at hcut23
                              have HO194 := Aside0.mk (show Kd.V (Kd.int .u8) 5 _ w.heap.size _ (.slice Ao22 y190.length co22) y190 from Kd.V_mk (by omega) hr23)
                              have HC194 := Aside0.mk (show y190.length ≤ co22 from by omega)
                              clear hr23 hC23 hroom23 hi023 hsz23
                              have KY23 := Aside0.mk hy23
                              clear hy23
                              replace q23 := eq_true q23
                              go_wp2_with (first | ((with_reducible refine gate_callee (f := 49) rfl ?_); refine goesL_ (some 51) rfl rfl Try.func49 (by kernel_rfl) rfl #[.slice Ao22 y190.length co22] rfl (by (try simp only [List.map_toArray, List.map_cons, List.map_nil]); first | done | rfl | (simp only [List.length_drop, List.length_take]; rfl)) ?_; (with_reducible refine (wire_get.calls k2 _ _ y190 t195 t196 t197 t198 t199 t200 t201 t202 t203 _ ?side1 ?side2 A18.out).mono ?_); (case side1 => repeat (first | exact (Kd.V_reads' HO194.out).2.2 | (with_reducible refine Kd.C_alloc ?_ _) | (with_reducible refine Kd.C_drewN ?_ _) | (with_reducible refine Kd.C_drew ?_))); (case side2 => exact (Kd.V_reads' HO194.out).2.1); rintro e w24 ⟨rfl, hb⟩; refine ⟨_, rfl, ?_⟩; have n0_ := Aside0.mk (Kd.V_below (by (with_reducible repeat (first | apply Kd.V_alloc | apply Kd.V_drewN | apply Kd.V_drew)); exact HO_6.out) hb); have n1_ := Aside0.mk (Kd.R_below (by (with_reducible repeat (first | apply Kd.R_alloc | apply Kd.R_drewN | apply Kd.R_drew)); exact HO_7.out) hb); have n2_ := Aside0.mk (Kd.V_below (by (with_reducible repeat (first | apply Kd.V_alloc | apply Kd.V_drewN | apply Kd.V_drew)); exact HO194.out) hb); have n3_ := Aside0.mk (below_step (by repeat (first | (with_reducible first | exact HB.out | apply below_alloc | apply pw_below_drewN | apply below_drew1) | exact HB.out)) hb); clear HO_6; clear HO_7; clear HO194; clear HB; have HO_6 := n0_; have HO_7 := n1_; have HO194 := n2_; have HB := n3_; clear n0_ n1_ n2_ n3_; (try clear hb); (try clear hb2); (try clear hk); (try clear hi)) | ((with_reducible refine gate_dst (N := 8) rfl ?_); refine box_event ?hg (N := 8) ?hd (cs := #[.int .u64 0, .int .u64 0, .int .u64 0, .int .u8 0, .string (⟨#[]⟩ : ByteArray), .string (⟨#[]⟩ : ByteArray), .int .i64 0, .int .i64 0]) (t := 77) ?hr ?_; (case hd => rfl); (case hg => rfl); (case hr => first | (go_simp; done) | (go_simp; rfl)); intro gb204 hg w25 hbox hb; have n0_ := Aside0.mk (Kd.V_below (Kd.V_elderB (by (with_reducible repeat (first | apply Kd.V_alloc | apply Kd.V_drewN | apply Kd.V_drew)); exact HO_6.out) gb204 (Nat.le_of_eq hg.symm)) hb); have n1_ := Aside0.mk (Kd.R_below (Kd.R_elderB (by (with_reducible repeat (first | apply Kd.R_alloc | apply Kd.R_drewN | apply Kd.R_drew)); exact HO_7.out) gb204 (Nat.le_of_eq hg.symm)) hb); have n2_ := Aside0.mk (Kd.V_below (Kd.V_elderB (by (with_reducible repeat (first | apply Kd.V_alloc | apply Kd.V_drewN | apply Kd.V_drew)); exact HO194.out) gb204 (Nat.le_of_eq hg.symm)) hb); have n3_ := Aside0.mk (below_step (by repeat (first | (with_reducible first | exact HB.out | apply below_alloc | apply pw_below_drewN | apply below_drew1) | exact HB.out)) hb); have n4_ := Aside0.mk (hbox); have n5_ := Aside0.mk ((by rw [hg]; exact (below_size (by repeat (first | (with_reducible first | exact HB.out | apply below_alloc | apply pw_below_drewN | apply below_drew1) | exact HB.out))) : w.heap.size ≤ gb204)); have n6_ := Aside0.mk ((by rw [hg]; exact (below_size (by repeat (first | (with_reducible first | exact HB.out | apply below_alloc | apply pw_below_drewN | apply below_drew1) | exact HB.out))) : w.heap.size ≤ gb204)); clear HO_6; clear HO_7; clear HO194; clear HB; have HO_6 := n0_; have HO_7 := n1_; have HO194 := n2_; have HB := n3_; have BK204 := n4_; have GW204 := n5_; have GE204 := n6_; clear n0_ n1_ n2_ n3_ n4_ n5_ n6_; clear hb hbox hg; have hcz26_0 : w25.cell? ⟨gb204, 0, none⟩ = some (.int .u64 0) := (blk_cell BK204.out 0).trans rfl; have hcz26_1 : w25.cell? ⟨gb204, 1, none⟩ = some (.int .u64 0) := (blk_cell BK204.out 1).trans rfl; have hcz26_2 : w25.cell? ⟨gb204, 2, none⟩ = some (.int .u64 0) := (blk_cell BK204.out 2).trans rfl; have hcz26_3 : w25.cell? ⟨gb204, 3, none⟩ = some (.int .u8 0) := (blk_cell BK204.out 3).trans rfl; have hcz26_4 : w25.cell? ⟨gb204, 4, none⟩ = some (.string (⟨#[]⟩ : ByteArray)) := (blk_cell BK204.out 4).trans rfl; have hcz26_5 : w25.cell? ⟨gb204, 5, none⟩ = some (.string (⟨#[]⟩ : ByteArray)) := (blk_cell BK204.out 5).trans rfl; have hcz26_6 : w25.cell? ⟨gb204, 6, none⟩ = some (.int .i64 0) := (blk_cell BK204.out 6).trans rfl; have hcz26_7 : w25.cell? ⟨gb204, 7, none⟩ = some (.int .i64 0) := (blk_cell BK204.out 7).trans rfl; have hfz26_0 := blk_frozen BK204.out 0; have hfz26_1 := blk_frozen BK204.out 1; have hfz26_2 := blk_frozen BK204.out 2; have hfz26_3 := blk_frozen BK204.out 3; have hfz26_4 := blk_frozen BK204.out 4; have hfz26_5 := blk_frozen BK204.out 5; have hfz26_6 := blk_frozen BK204.out 6; have hfz26_7 := blk_frozen BK204.out 7) | ((with_reducible refine gate_builtin (b := .append) (xs := #[.tmp 57, .tmp 59]) rfl ?_); at_builtin; refine Kd.R_append k77 (w0 := w) w.heap.size rfl (.tmp 57) (.tmp 59) 22 77 (.agg #[(.int .u64 0), (.int .u64 0), (.int .u64 0), (.int .u8 0), (.string ⟨#[]⟩), (.string ⟨#[]⟩), (.int .i64 0), (.int .i64 0)]) 80 rfl Try.underlying22 info77 rfl (by decide) (by omega) u7 x7_2 (⟨t195, t196, t197, t198, t199, t200, t201, t202⟩ : S77) [.int .u64 t195, .int .u64 t196, .int .u64 t197, .int .u8 t198, .string t199, .string t200, .int .i64 t201, .int .i64 t202] (fun k_ => (w.heap.size ≤ k_) ∧ k_ ≠ gb204) (fun _ => False) rfl (by first | (go_simp; done) | (go_simp; rfl)) ?aP (fun _ hk => hk.elim) ?aF ?aO ?aB ?aS ?aL ?_; (case aP => exact k77_mkM _ _ _ (⟨t195, t196, t197, t198, t199, t200, t201, t202⟩ : S77)); (case aB => exact (by repeat (first | (with_reducible first | exact HB.out | apply below_alloc | apply pw_below_drewN | apply below_drew1 | refine below_set ?_ GE204.out) | exact HB.out))); (case aF => exact (fun k_ hk => ⟨(Nat.le_trans (below_size (by repeat (first | (with_reducible first | exact HB.out | apply below_alloc | apply pw_below_drewN | apply below_drew1 | refine below_set ?_ GE204.out) | exact HB.out))) hk), Kd.freshB (g := gb204) (o := .cells #[.int .u64 t195, .int .u64 t196, .int .u64 t197, .int .u8 t198, .string t199, .string t200, .int .i64 t201, .int .i64 t202] 77 (0, 0)) (by (with_reducible repeat (first | refine blk_drewN ?_ _ | refine blk_drew ?_ | refine blk_alloc ?_ _)); refine blk_put (cs := #[.int .u64 t195, .int .u64 t196, .int .u64 t197, .int .u8 t198, .string t199, .string t200, .int .i64 t201, .int .i64 0]) ?_ 7 _ rfl; (with_reducible repeat (first | refine blk_drewN ?_ _ | refine blk_drew ?_ | refine blk_alloc ?_ _)); refine blk_put (cs := #[.int .u64 t195, .int .u64 t196, .int .u64 t197, .int .u8 t198, .string t199, .string t200, .int .i64 0, .int .i64 0]) ?_ 6 _ rfl; (with_reducible repeat (first | refine blk_drewN ?_ _ | refine blk_drew ?_ | refine blk_alloc ?_ _)); refine blk_put (cs := #[.int .u64 t195, .int .u64 t196, .int .u64 t197, .int .u8 t198, .string t199, .string (⟨#[]⟩ : ByteArray), .int .i64 0, .int .i64 0]) ?_ 5 _ rfl; (with_reducible repeat (first | refine blk_drewN ?_ _ | refine blk_drew ?_ | refine blk_alloc ?_ _)); refine blk_put (cs := #[.int .u64 t195, .int .u64 t196, .int .u64 t197, .int .u8 t198, .string (⟨#[]⟩ : ByteArray), .string (⟨#[]⟩ : ByteArray), .int .i64 0, .int .i64 0]) ?_ 4 _ rfl; (with_reducible repeat (first | refine blk_drewN ?_ _ | refine blk_drew ?_ | refine blk_alloc ?_ _)); refine blk_put (cs := #[.int .u64 t195, .int .u64 t196, .int .u64 t197, .int .u8 0, .string (⟨#[]⟩ : ByteArray), .string (⟨#[]⟩ : ByteArray), .int .i64 0, .int .i64 0]) ?_ 3 _ rfl; (with_reducible repeat (first | refine blk_drewN ?_ _ | refine blk_drew ?_ | refine blk_alloc ?_ _)); refine blk_put (cs := #[.int .u64 t195, .int .u64 t196, .int .u64 0, .int .u8 0, .string (⟨#[]⟩ : ByteArray), .string (⟨#[]⟩ : ByteArray), .int .i64 0, .int .i64 0]) ?_ 2 _ rfl; (with_reducible repeat (first | refine blk_drewN ?_ _ | refine blk_drew ?_ | refine blk_alloc ?_ _)); refine blk_put (cs := #[.int .u64 t195, .int .u64 0, .int .u64 0, .int .u8 0, .string (⟨#[]⟩ : ByteArray), .string (⟨#[]⟩ : ByteArray), .int .i64 0, .int .i64 0]) ?_ 1 _ rfl; (with_reducible repeat (first | refine blk_drewN ?_ _ | refine blk_drew ?_ | refine blk_alloc ?_ _)); refine blk_put (cs := #[.int .u64 0, .int .u64 0, .int .u64 0, .int .u8 0, .string (⟨#[]⟩ : ByteArray), .string (⟨#[]⟩ : ByteArray), .int .i64 0, .int .i64 0]) ?_ 0 _ rfl; (with_reducible repeat (first | refine blk_drewN ?_ _ | refine blk_drew ?_ | refine blk_alloc ?_ _)); exact BK204.out) k_ hk⟩)); (case aO => exact (by (with_reducible repeat (first | apply Kd.R_alloc | apply Kd.R_drewN | apply Kd.R_drew)); exact Kd.R_mono (Kd.R_far (p := ⟨gb204, 7, none⟩) (Kd.R_far (p := ⟨gb204, 6, none⟩) (Kd.R_far (p := ⟨gb204, 5, none⟩) (Kd.R_far (p := ⟨gb204, 4, none⟩) (Kd.R_far (p := ⟨gb204, 3, none⟩) (Kd.R_far (p := ⟨gb204, 2, none⟩) (Kd.R_far (p := ⟨gb204, 1, none⟩) (Kd.R_far (p := ⟨gb204, 0, none⟩) (Kd.R_mono HO_7.out (fun k_ hk => (⟨hk, hk.2⟩ : _ ∧ k_ ≠ gb204))) (fun _ hk => hk.2) (.int .u64 t195)) (fun _ hk => hk.2) (.int .u64 t196)) (fun _ hk => hk.2) (.int .u64 t197)) (fun _ hk => hk.2) (.int .u8 t198)) (fun _ hk => hk.2) (.string t199)) (fun _ hk => hk.2) (.string t200)) (fun _ hk => hk.2) (.int .i64 t201)) (fun _ hk => hk.2) (.int .i64 t202)) (fun _ hk => ⟨hk.1.1, hk.1.2⟩))); (case aS => exact (below_size (by repeat (first | (with_reducible first | exact HB.out | apply below_alloc | apply pw_below_drewN | apply below_drew1 | refine below_set ?_ GE204.out) | exact HB.out)))); (case aL => have := LMc20.out; omega); intro v206 w27 ho hb hg hat; rw [← Ny205.out] at ho; have n0_ := Aside0.mk (Kd.V_afterv (ok := (fun k_ => (P0_ k_ ∨ w.heap.size ≤ k_) ∧ k_ ≠ gb204)) (by (with_reducible repeat (first | apply Kd.V_alloc | apply Kd.V_drewN | apply Kd.V_drew)); exact Kd.V_mono (Kd.V_far (p := ⟨gb204, 7, none⟩) (Kd.V_far (p := ⟨gb204, 6, none⟩) (Kd.V_far (p := ⟨gb204, 5, none⟩) (Kd.V_far (p := ⟨gb204, 4, none⟩) (Kd.V_far (p := ⟨gb204, 3, none⟩) (Kd.V_far (p := ⟨gb204, 2, none⟩) (Kd.V_far (p := ⟨gb204, 1, none⟩) (Kd.V_far (p := ⟨gb204, 0, none⟩) (Kd.V_mono HO_6.out (fun k_ hk => (⟨hk, hk.2⟩ : _ ∧ k_ ≠ gb204))) (fun _ hk => hk.2) (.int .u64 t195)) (fun _ hk => hk.2) (.int .u64 t196)) (fun _ hk => hk.2) (.int .u64 t197)) (fun _ hk => hk.2) (.int .u8 t198)) (fun _ hk => hk.2) (.string t199)) (fun _ hk => hk.2) (.string t200)) (fun _ hk => hk.2) (.int .i64 t201)) (fun _ hk => hk.2) (.int .i64 t202)) (fun _ hk => ⟨⟨hk.1.1.1, hk.1.2⟩, hk.1.1.2⟩)) hg hat); have n1_ := Aside0.mk (Kd.V_afterv (ok := (fun k_ => (P0_ k_ ∨ w.heap.size ≤ k_) ∧ k_ ≠ gb204)) (by (with_reducible repeat (first | apply Kd.V_alloc | apply Kd.V_drewN | apply Kd.V_drew)); exact Kd.V_mono (Kd.V_far (p := ⟨gb204, 7, none⟩) (Kd.V_far (p := ⟨gb204, 6, none⟩) (Kd.V_far (p := ⟨gb204, 5, none⟩) (Kd.V_far (p := ⟨gb204, 4, none⟩) (Kd.V_far (p := ⟨gb204, 3, none⟩) (Kd.V_far (p := ⟨gb204, 2, none⟩) (Kd.V_far (p := ⟨gb204, 1, none⟩) (Kd.V_far (p := ⟨gb204, 0, none⟩) (Kd.V_mono HO194.out (fun k_ hk => (⟨hk, hk.2⟩ : _ ∧ k_ ≠ gb204))) (fun _ hk => hk.2) (.int .u64 t195)) (fun _ hk => hk.2) (.int .u64 t196)) (fun _ hk => hk.2) (.int .u64 t197)) (fun _ hk => hk.2) (.int .u8 t198)) (fun _ hk => hk.2) (.string t199)) (fun _ hk => hk.2) (.string t200)) (fun _ hk => hk.2) (.int .i64 t201)) (fun _ hk => hk.2) (.int .i64 t202)) (fun _ hk => ⟨⟨hk.1.1.1, hk.1.2⟩, hk.1.1.2⟩)) hg hat); have n2_ := Aside0.mk (blk_grown (g := gb204) (o := .cells #[.int .u64 t195, .int .u64 t196, .int .u64 t197, .int .u8 t198, .string t199, .string t200, .int .i64 t201, .int .i64 t202] 77 (0, 0)) (by (with_reducible repeat (first | refine blk_drewN ?_ _ | refine blk_drew ?_ | refine blk_alloc ?_ _)); refine blk_put (cs := #[.int .u64 t195, .int .u64 t196, .int .u64 t197, .int .u8 t198, .string t199, .string t200, .int .i64 t201, .int .i64 0]) ?_ 7 _ rfl; (with_reducible repeat (first | refine blk_drewN ?_ _ | refine blk_drew ?_ | refine blk_alloc ?_ _)); refine blk_put (cs := #[.int .u64 t195, .int .u64 t196, .int .u64 t197, .int .u8 t198, .string t199, .string t200, .int .i64 0, .int .i64 0]) ?_ 6 _ rfl; (with_reducible repeat (first | refine blk_drewN ?_ _ | refine blk_drew ?_ | refine blk_alloc ?_ _)); refine blk_put (cs := #[.int .u64 t195, .int .u64 t196, .int .u64 t197, .int .u8 t198, .string t199, .string (⟨#[]⟩ : ByteArray), .int .i64 0, .int .i64 0]) ?_ 5 _ rfl; (with_reducible repeat (first | refine blk_drewN ?_ _ | refine blk_drew ?_ | refine blk_alloc ?_ _)); refine blk_put (cs := #[.int .u64 t195, .int .u64 t196, .int .u64 t197, .int .u8 t198, .string (⟨#[]⟩ : ByteArray), .string (⟨#[]⟩ : ByteArray), .int .i64 0, .int .i64 0]) ?_ 4 _ rfl; (with_reducible repeat (first | refine blk_drewN ?_ _ | refine blk_drew ?_ | refine blk_alloc ?_ _)); refine blk_put (cs := #[.int .u64 t195, .int .u64 t196, .int .u64 t197, .int .u8 0, .string (⟨#[]⟩ : ByteArray), .string (⟨#[]⟩ : ByteArray), .int .i64 0, .int .i64 0]) ?_ 3 _ rfl; (with_reducible repeat (first | refine blk_drewN ?_ _ | refine blk_drew ?_ | refine blk_alloc ?_ _)); refine blk_put (cs := #[.int .u64 t195, .int .u64 t196, .int .u64 0, .int .u8 0, .string (⟨#[]⟩ : ByteArray), .string (⟨#[]⟩ : ByteArray), .int .i64 0, .int .i64 0]) ?_ 2 _ rfl; (with_reducible repeat (first | refine blk_drewN ?_ _ | refine blk_drew ?_ | refine blk_alloc ?_ _)); refine blk_put (cs := #[.int .u64 t195, .int .u64 0, .int .u64 0, .int .u8 0, .string (⟨#[]⟩ : ByteArray), .string (⟨#[]⟩ : ByteArray), .int .i64 0, .int .i64 0]) ?_ 1 _ rfl; (with_reducible repeat (first | refine blk_drewN ?_ _ | refine blk_drew ?_ | refine blk_alloc ?_ _)); refine blk_put (cs := #[.int .u64 0, .int .u64 0, .int .u64 0, .int .u8 0, .string (⟨#[]⟩ : ByteArray), .string (⟨#[]⟩ : ByteArray), .int .i64 0, .int .i64 0]) ?_ 0 _ rfl; (with_reducible repeat (first | refine blk_drewN ?_ _ | refine blk_drew ?_ | refine blk_alloc ?_ _)); exact BK204.out) hg (Kd.R_away HO_7.out (fun _ hk => hk.2))); have n3_ := Aside0.mk (hb); have n4_ := Aside0.mk (ho); clear HO_6; clear HO194; clear BK204; clear HB; clear HO_7; have HO_6 := n0_; have HO194 := n1_; have BK204 := n2_; have HB := n3_; have HO207 := n4_; clear n0_ n1_ n2_ n3_ n4_; clear ho hb hg hat; have q28 : (75 : Int) ≤ ((x6_2.length : Int) : Int) := of_decide_eq_true (by first | (with_reducible assumption) | assumption); obtain ⟨i028, hi028, _, hsz28, _⟩ := info_parts info5; have hroom28 : x6_2.length ≤ co22 := (Kd.V_reads' HO_6.out).2.1; have hC28 : Kd.F (Kd.int .u8) _ _ Ao22 x6_2.length x6_2 := (Kd.V_at (base := w.heap.size) HO_6.out).2.2; have hcut28 := cut_from (P := Try.prog) 25 5 .i64 Try.underlying25 hi028 1 hsz28 Ao22 x6_2.length co22 75 (by omega) q28; have hr28 := Kd.F_cut (m := (75 : Int).toNat) (c := co22) hC28 (by omega) hroom28; obtain ⟨A28, hA28⟩ : ∃ A1, A1 = (if co22 = (75 : Int).toNat then Ao22 else (Ao22 : Option Addr).map (·.add ((75 : Int).toNat * 1))) := ⟨_, rfl⟩; obtain ⟨c28, hc28⟩ : ∃ c1, c1 = co22 - (75 : Int).toNat := ⟨_, rfl⟩; have hy28 : y208.length = x6_2.length - (75 : Int).toNat := (by rw [Ny208.out, List.length_drop] <;> omega); rw [show (x6_2).drop (75 : Int).toNat = y208 from Ny208.out.symm] at hr28; replace hr28 : Kd.F (Kd.int .u8) _ _ A28 y208.length y208 := (by rw [hA28]; exact hr28); rw [← hy28, ← hA28, ← hc28] at hcut28; have HO212 := Aside0.mk (show Kd.V (Kd.int .u8) 5 _ w.heap.size _ (.slice A28 y208.length c28) y208 from Kd.V_mk (by rw [hy28, hc28]; exact Nat.sub_le_sub_right hroom28 _) hr28); have HC212 := Aside0.mk (show y208.length ≤ c28 from by rw [hy28, hc28]; exact Nat.sub_le_sub_right hroom28 _); clear hr28 hC28 hroom28 hi028 hsz28 hc28; have KY28 := Aside0.mk hy28; have KA28 := Aside0.mk hA28; clear hy28 hA28; replace q28 := eq_true q28))
                              go_roundg k2
                              case measure => have := HJ5.out; have := HK2.out; omega
                              case rel => exact ⟨(y208), (y205), H', ⟨by have := HJ5.out; have := HK2.out; omega⟩, ⟨by (with_reducible repeat (first | apply Kd.V_alloc | apply Kd.V_drewN | apply Kd.V_drew)); exact Kd.V_mono HO212.out (fun _ hk => ⟨hk.1.1, hk.2⟩)⟩, ⟨by (with_reducible repeat (first | apply Kd.R_alloc | apply Kd.R_drewN | apply Kd.R_drew)); exact Kd.R_mono HO207.out (fun _ hk => hk.1)⟩, ⟨by repeat (first | (with_reducible first | exact HB.out | apply below_alloc | apply pw_below_drewN | apply below_drew1 | refine below_set ?_ GE204.out) | exact HB.out)⟩⟩
                            · rw [if_neg c20] at H
                              exact absurd H (by simp)
                          · rw [if_neg c19] at H
                            have c19b0 : (t203 == 0) = false := beq_eq_false_iff_ne.mpr c19
                            have c19b1 : (t203 != 0) = true := bne_iff_ne.mpr c19
                            simp only [Option.some.injEq, Prod.mk.injEq] at H
                            obtain ⟨rfl, rfl⟩ := H
                            obtain ⟨Ao29, co29, eo29⟩ := Kd.V_slice HO_6.out
                            subst eo29
                            have q30 : (75 : Int) ≤ ((x6_2.length : Int) : Int) := of_decide_eq_true (by first | (with_reducible assumption) | assumption)
                            obtain ⟨i030, hi030, _, hsz30, _⟩ := info_parts info5
                            have hroom30 : x6_2.length ≤ co29 := (Kd.V_reads' HO_6.out).2.1
                            have hC30 : Kd.F (Kd.int .u8) _ _ Ao29 x6_2.length x6_2 := (Kd.V_at (base := w.heap.size) HO_6.out).2.2
                            have hcut30 := cut_to (P := Try.prog) 25 5 .i64 Try.underlying25 hi030 Ao29 x6_2.length co29 75 (by omega) q30 hroom30
                            have hr30 := Kd.F_take (m := 75) hC30 (by omega)
                            have hy30 : y190.length = (75 : Int).toNat := (by rw [Ny190.out, List.length_take]; omega)
                            rw [← Ny190.out] at hr30
                            rw [← hy30] at hcut30
                            have HO194 := Aside0.mk (show Kd.V (Kd.int .u8) 5 _ w.heap.size _ (.slice Ao29 y190.length co29) y190 from Kd.V_mk (by omega) hr30)
                            have HC194 := Aside0.mk (show y190.length ≤ co29 from by omega)
                            clear hr30 hC30 hroom30 hi030 hsz30
                            have KY30 := Aside0.mk hy30
                            clear hy30
                            replace q30 := eq_true q30
                            go_wp2_with (first | ((with_reducible refine gate_callee (f := 49) rfl ?_); refine goesL_ (some 51) rfl rfl Try.func49 (by kernel_rfl) rfl #[.slice Ao29 y190.length co29] rfl (by (try simp only [List.map_toArray, List.map_cons, List.map_nil]); first | done | rfl | (simp only [List.length_drop, List.length_take]; rfl)) ?_; (with_reducible refine (wire_get.calls k2 _ _ y190 t195 t196 t197 t198 t199 t200 t201 t202 t203 _ ?side1 ?side2 A18.out).mono ?_); (case side1 => repeat (first | exact (Kd.V_reads' HO194.out).2.2 | (with_reducible refine Kd.C_alloc ?_ _) | (with_reducible refine Kd.C_drewN ?_ _) | (with_reducible refine Kd.C_drew ?_))); (case side2 => exact (Kd.V_reads' HO194.out).2.1); rintro e w31 ⟨rfl, hb⟩; refine ⟨_, rfl, ?_⟩; have n0_ := Aside0.mk (Kd.V_below (by (with_reducible repeat (first | apply Kd.V_alloc | apply Kd.V_drewN | apply Kd.V_drew)); exact HO_6.out) hb); have n1_ := Aside0.mk (Kd.R_below (by (with_reducible repeat (first | apply Kd.R_alloc | apply Kd.R_drewN | apply Kd.R_drew)); exact HO_7.out) hb); have n2_ := Aside0.mk (Kd.V_below (by (with_reducible repeat (first | apply Kd.V_alloc | apply Kd.V_drewN | apply Kd.V_drew)); exact HO194.out) hb); have n3_ := Aside0.mk (below_step (by repeat (first | (with_reducible first | exact HB.out | apply below_alloc | apply pw_below_drewN | apply below_drew1) | exact HB.out)) hb); clear HO_6; clear HO_7; clear HO194; clear HB; have HO_6 := n0_; have HO_7 := n1_; have HO194 := n2_; have HB := n3_; clear n0_ n1_ n2_ n3_; (try clear hb); (try clear hb2); (try clear hk); (try clear hi)) | ((with_reducible refine gate_dst (N := 8) rfl ?_); refine box_event ?hg (N := 8) ?hd (cs := #[.int .u64 0, .int .u64 0, .int .u64 0, .int .u8 0, .string (⟨#[]⟩ : ByteArray), .string (⟨#[]⟩ : ByteArray), .int .i64 0, .int .i64 0]) (t := 77) ?hr ?_; (case hd => rfl); (case hg => rfl); (case hr => first | (go_simp; done) | (go_simp; rfl)); intro gb204 hg w32 hbox hb; have n0_ := Aside0.mk (Kd.V_below (Kd.V_elderB (by (with_reducible repeat (first | apply Kd.V_alloc | apply Kd.V_drewN | apply Kd.V_drew)); exact HO_6.out) gb204 (Nat.le_of_eq hg.symm)) hb); have n1_ := Aside0.mk (Kd.R_below (Kd.R_elderB (by (with_reducible repeat (first | apply Kd.R_alloc | apply Kd.R_drewN | apply Kd.R_drew)); exact HO_7.out) gb204 (Nat.le_of_eq hg.symm)) hb); have n2_ := Aside0.mk (Kd.V_below (Kd.V_elderB (by (with_reducible repeat (first | apply Kd.V_alloc | apply Kd.V_drewN | apply Kd.V_drew)); exact HO194.out) gb204 (Nat.le_of_eq hg.symm)) hb); have n3_ := Aside0.mk (below_step (by repeat (first | (with_reducible first | exact HB.out | apply below_alloc | apply pw_below_drewN | apply below_drew1) | exact HB.out)) hb); have n4_ := Aside0.mk (hbox); have n5_ := Aside0.mk ((by rw [hg]; exact (below_size (by repeat (first | (with_reducible first | exact HB.out | apply below_alloc | apply pw_below_drewN | apply below_drew1) | exact HB.out))) : w.heap.size ≤ gb204)); have n6_ := Aside0.mk ((by rw [hg]; exact (below_size (by repeat (first | (with_reducible first | exact HB.out | apply below_alloc | apply pw_below_drewN | apply below_drew1) | exact HB.out))) : w.heap.size ≤ gb204)); clear HO_6; clear HO_7; clear HO194; clear HB; have HO_6 := n0_; have HO_7 := n1_; have HO194 := n2_; have HB := n3_; have BK204 := n4_; have GW204 := n5_; have GE204 := n6_; clear n0_ n1_ n2_ n3_ n4_ n5_ n6_; clear hb hbox hg; have hcz33_0 : w32.cell? ⟨gb204, 0, none⟩ = some (.int .u64 0) := (blk_cell BK204.out 0).trans rfl; have hcz33_1 : w32.cell? ⟨gb204, 1, none⟩ = some (.int .u64 0) := (blk_cell BK204.out 1).trans rfl; have hcz33_2 : w32.cell? ⟨gb204, 2, none⟩ = some (.int .u64 0) := (blk_cell BK204.out 2).trans rfl; have hcz33_3 : w32.cell? ⟨gb204, 3, none⟩ = some (.int .u8 0) := (blk_cell BK204.out 3).trans rfl; have hcz33_4 : w32.cell? ⟨gb204, 4, none⟩ = some (.string (⟨#[]⟩ : ByteArray)) := (blk_cell BK204.out 4).trans rfl; have hcz33_5 : w32.cell? ⟨gb204, 5, none⟩ = some (.string (⟨#[]⟩ : ByteArray)) := (blk_cell BK204.out 5).trans rfl; have hcz33_6 : w32.cell? ⟨gb204, 6, none⟩ = some (.int .i64 0) := (blk_cell BK204.out 6).trans rfl; have hcz33_7 : w32.cell? ⟨gb204, 7, none⟩ = some (.int .i64 0) := (blk_cell BK204.out 7).trans rfl; have hfz33_0 := blk_frozen BK204.out 0; have hfz33_1 := blk_frozen BK204.out 1; have hfz33_2 := blk_frozen BK204.out 2; have hfz33_3 := blk_frozen BK204.out 3; have hfz33_4 := blk_frozen BK204.out 4; have hfz33_5 := blk_frozen BK204.out 5; have hfz33_6 := blk_frozen BK204.out 6; have hfz33_7 := blk_frozen BK204.out 7))
                            go_ret2
                            exact ⟨_, by first | rfl | (simp [errW_none, errW_some] <;> rfl) | (simp [*, errW_none, errW_some] <;> rfl), by first | exact Kd.R_nil _ _ _ _ _ | exact Kd.N_nil _ _ _ _ _ | exact Kd.V_nil _ _ _ _ _ | exact Kd.Q_nil _ _ _ _ _ | exact Kd.S_nil _ _ _ _ _, by repeat (first | (with_reducible first | exact HB.out | apply below_alloc | apply pw_below_drewN | apply below_drew1 | refine below_set ?_ GE204.out) | exact HB.out)⟩
                        · rw [if_neg c17] at H
                          exact absurd H (by simp)
                      · rw [if_neg c16] at H
                        have c16b0 : decide (0 < (x6_2.length : Int)) = false := decide_eq_false c16
                        have c16b1 : decide (0 < x6_2.length) = false := decide_eq_false (by omega)
                        clear c16
                        simp only [Option.some.injEq, Prod.mk.injEq] at H
                        obtain ⟨rfl, rfl⟩ := H
                        obtain ⟨Ao34, co34, eo34⟩ := Kd.V_slice HO_6.out
                        subst eo34
                        go_wp2
                        go_ret2
                        exact ⟨_, by first | rfl | (simp [errW_none, errW_some] <;> rfl) | (simp [*, errW_none, errW_some] <;> rfl), by (with_reducible repeat (first | apply Kd.R_alloc | apply Kd.R_drewN | apply Kd.R_drew)); exact HO_7.out, by repeat (first | (with_reducible first | exact HB.out | apply below_alloc | apply pw_below_drewN | apply below_drew1) | exact HB.out)⟩
      · rw [if_neg c5] at H
        exact absurd H (by simp)
    · rw [if_neg c4] at H
      exact absurd H (by simp)

/-! ### merkhetlaw04_WireCuts: function 10 -/
def merkhetlaw04_WireCuts_fix (k : Nat) : Option Bool := (merkhetlaw04_fixed.f k).bind fun y => if y = true then some true else none
def merkhetlaw04_WireCuts_end (k : Nat) (a1 : Int) (l2 b : List Int) : Option Bool :=
  (wire_Get.f k (b.take (Int.tmod a1 (b.length : Int)).toNat)).bind fun x => (wire_Get.f k (b ++ l2)).bind fun y => if (x.2 = 2 ∧ y.2 = 3) ∧ x.1.length = 0 ∧ y.1.length = 0 then merkhetlaw04_WireCuts_fix k else none
def merkhetlaw04_WireCuts.f (k : Nat) (l0 : List S77) (a1 : Int) (l2 : List Int) : Option Bool :=
  (merkhetlaw04_Great.f k l0).bind fun g => if g = true then merkhetlaw04_WireCuts_fix k else if l2.length > 100 then merkhetlaw04_WireCuts_fix k else if l2.length = 0 then merkhetlaw04_WireCuts_fix k
  else (wire_Put.f k l0).bind fun b => if b.2 = 0 then (if (0 < b.1.length ∧ b.1.length ≤ 100000) ∧ 0 ≤ a1 ∧ a1 ≤ 65535 then merkhetlaw04_WireCuts_end k a1 l2 b.1 else none) else (if b.2 = 1 then merkhetlaw04_WireCuts_fix k else none)
theorem merkhetlaw04_WireCuts_fix_mono (k : Nat) : LeO (merkhetlaw04_WireCuts_fix k) (merkhetlaw04_WireCuts_fix (k + 1)) := LeO.bind (merkhetlaw04_fixed.mono _) (fun _ => LeO.refl _)
theorem merkhetlaw04_WireCuts.mono : ∀ a0 a1 a2 k, LeO (merkhetlaw04_WireCuts.f k a0 a1 a2) (merkhetlaw04_WireCuts.f (k + 1) a0 a1 a2) := by
  intro a0 a1 a2 k
  exact LeO.bind (merkhetlaw04_Great.mono _ _) (fun _ => LeO.ite (merkhetlaw04_WireCuts_fix_mono k) (LeO.ite (merkhetlaw04_WireCuts_fix_mono k) (LeO.ite (merkhetlaw04_WireCuts_fix_mono k) (LeO.bind (wire_Put.mono _ _) (fun _ => LeO.ite (LeO.ite (LeO.bind (wire_Get.mono _ _) (fun _ => LeO.bind (wire_Get.mono _ _) (fun _ => LeO.ite (merkhetlaw04_WireCuts_fix_mono k) (LeO.refl _)))) (LeO.refl _)) (LeO.ite (merkhetlaw04_WireCuts_fix_mono k) (LeO.refl _)))))))
theorem merkhetlaw04_WireCuts_if {c : Prop} [Decidable c] {o : Option Bool} {r : Bool} (h : (if c then o else none) = some r) : c ∧ o = some r := by
  by_cases hc : c
  · exact ⟨hc, by simpa [hc] using h⟩
  · exact absurd h (by simp [hc])
theorem merkhetlaw04_WireCuts_fx {k : Nat} {r : Bool} (h : merkhetlaw04_WireCuts_fix k = some r) : r = true ∧ merkhetlaw04_fixed.f k = some true := by
  obtain ⟨y, hy, h2⟩ := Option.bind_eq_some_iff.mp h
  obtain ⟨rfl, h3⟩ := merkhetlaw04_WireCuts_if h2
  exact ⟨(Option.some.inj h3).symm, hy⟩
set_option maxHeartbeats 8000000 in
set_option maxRecDepth 100000 in
theorem merkhetlaw04_WireCuts.calls (k : Nat) (A0 : Option Addr) (c0 : Nat) (l0 : List S77) (a1 : Int) (A2 : Option Addr) (c2 : Nat) (l2 : List Int) (r : Bool) (w : World) (hr0 : Kd.C k77 w A0 l0.length l0) (hc0 : l0.length ≤ c0) (hr2 : Kd.C (Kd.int .u8) w A2 l2.length l2) (hc2 : l2.length ≤ c2) (h : merkhetlaw04_WireCuts.f k l0 a1 l2 = some r) :
    Calls Try.prog 10 #[.slice A0 l0.length c0, .int .u16 a1, .slice A2 l2.length c2] w fun e w' => e = .returned (.bool r) ∧ Below w.heap.size w w' := by
  have HR0 := Aside0.mk hr0
  have HC0 := Aside0.mk hc0
  have HR2 := Aside0.mk hr2
  have HC2 := Aside0.mk hc2
  clear hr0 hc0 hr2 hc2
  obtain ⟨g, hg, h1⟩ := Option.bind_eq_some_iff.mp h
  have HG := Aside0.mk hg
  clear h hg
  have fin : ∀ (w2 : World), Below w.heap.size w w2 → merkhetlaw04_WireCuts_fix k = some r → r = true ∧ Calls Try.prog 16 #[] w2 (fun e w' => e = .returned (.bool true) ∧ Below w.heap.size w w') := fun w2 hb hf =>
    ⟨(merkhetlaw04_WireCuts_fx hf).1, (merkhetlaw04_fixed.calls k true w2 (merkhetlaw04_WireCuts_fx hf).2).mono (by rintro e w3 ⟨rfl, hb3⟩; exact ⟨rfl, below_step hb hb3⟩)⟩
  have FIN := Aside0.mk fin
  clear fin
  cases g with
  | true =>
    rw [if_pos rfl] at h1
    have H1 := Aside0.mk h1
    clear h1
    go_enter Try.func10, Try.ntmps10
    go_wp2_with (fail)
    refine (merkhetlaw04_Great.calls k A0 c0 l0 true _ HR0.out HC0.out HG.out).mono ?_
    rintro e w2 ⟨rfl, hb⟩
    have HB2 := Aside0.mk hb
    clear hb
    go_wp2_with (fail)
    obtain ⟨rfl, hq⟩ := FIN.out _ HB2.out H1.out
    refine hq.mono ?_
    rintro e w3 ⟨rfl, hb⟩
    go_wp2_with (fail)
    go_ret
    exact ⟨rfl, hb⟩
  | false =>
  rw [if_neg Bool.false_ne_true] at h1
  by_cases c1 : l2.length > 100
  · rw [if_pos c1] at h1
    have c1b : decide (100 < (l2.length : Int)) = true := decide_eq_true (by omega)
    have H1 := Aside0.mk h1
    clear h1
    go_enter Try.func10, Try.ntmps10
    go_wp2_with (fail)
    refine (merkhetlaw04_Great.calls k A0 c0 l0 false _ HR0.out HC0.out HG.out).mono ?_
    rintro e w2 ⟨rfl, hb⟩
    have HB2 := Aside0.mk hb
    clear hb
    go_wp2_with (fail)
    obtain ⟨rfl, hq⟩ := FIN.out _ HB2.out H1.out
    refine hq.mono ?_
    rintro e w3 ⟨rfl, hb⟩
    go_wp2_with (fail)
    go_ret
    exact ⟨rfl, hb⟩
  rw [if_neg c1] at h1
  have c1b : decide (100 < (l2.length : Int)) = false := decide_eq_false (by omega)
  by_cases cz : l2.length = 0
  · rw [if_pos cz] at h1
    have czb : ((l2.length : Int) == 0) = true := by rw [cz]; rfl
    have H1 := Aside0.mk h1
    clear h1
    go_enter Try.func10, Try.ntmps10
    go_wp2_with (fail)
    refine (merkhetlaw04_Great.calls k A0 c0 l0 false _ HR0.out HC0.out HG.out).mono ?_
    rintro e w2 ⟨rfl, hb⟩
    have HB2 := Aside0.mk hb
    clear hb
    go_wp2_with (fail)
    obtain ⟨rfl, hq⟩ := FIN.out _ HB2.out H1.out
    refine hq.mono ?_
    rintro e w3 ⟨rfl, hb⟩
    go_wp2_with (fail)
    go_ret
    exact ⟨rfl, hb⟩
  rw [if_neg cz] at h1
  have czb : ((l2.length : Int) == 0) = false := by rw [beq_eq_false_iff_ne]; omega
  obtain ⟨⟨b, eb⟩, hput, h2⟩ := Option.bind_eq_some_iff.mp h1
  have HPUT := Aside0.mk hput
  have h2 : (if eb = 0 then (if (0 < b.length ∧ b.length ≤ 100000) ∧ 0 ≤ a1 ∧ a1 ≤ 65535 then merkhetlaw04_WireCuts_end k a1 l2 b else none) else (if eb = 1 then merkhetlaw04_WireCuts_fix k else none)) = some r := h2
  have H2 := Aside0.mk h2
  clear h1 h2 hput
  go_enter Try.func10, Try.ntmps10
  go_wp2_with (fail)
  refine (merkhetlaw04_Great.calls k A0 c0 l0 false _ HR0.out HC0.out HG.out).mono ?_
  rintro e w2 ⟨rfl, hb⟩
  have HB2 := Aside0.mk hb
  clear hb
  go_wp2_with (fail)
  refine (wire_Put.calls k A0 c0 l0 b eb _ (Kd.C_below HR0.out HB2.out) HC0.out HPUT.out).mono ?_
  rintro e w3 ⟨v3, rfl, hO, hb⟩
  obtain ⟨A3, c3, rfl⟩ := Kd.R_slice hO
  have hrd := Kd.R_reads' hO
  have HO3 := Aside0.mk hO
  have HKC := Aside0.mk hrd.2.1
  have HB3 := Aside0.mk (below_step HB2.out hb)
  clear hO hrd hb HB2
  have h2 := H2.out
  clear H2
  by_cases ce : eb = 0
  case neg =>
    rw [if_neg ce] at h2
    obtain ⟨rfl, h3⟩ := merkhetlaw04_WireCuts_if h2
    have H1 := Aside0.mk h3
    clear h2 h3 ce
    go_wp2_with (fail)
    obtain ⟨rfl, hq⟩ := FIN.out _ HB3.out H1.out
    refine hq.mono ?_
    rintro e w4 ⟨rfl, hb⟩
    go_wp2_with (fail)
    go_ret
    exact ⟨rfl, hb⟩
  subst ce
  rw [if_pos rfl] at h2
  obtain ⟨⟨⟨q1, q2⟩, q3, q4⟩, h3⟩ := merkhetlaw04_WireCuts_if h2
  obtain ⟨⟨xs, ex⟩, hx, h4⟩ := Option.bind_eq_some_iff.mp h3
  obtain ⟨⟨ys, ey⟩, hy, h5⟩ := Option.bind_eq_some_iff.mp h4
  obtain ⟨⟨⟨h61, h62⟩, h63, h64⟩, h7⟩ := merkhetlaw04_WireCuts_if h5
  have h61 : ex = 2 := h61
  have h62 : ey = 3 := h62
  have h63 : xs.length = 0 := h63
  have h64 : ys.length = 0 := h64
  obtain rfl := List.length_eq_zero_iff.1 h63
  obtain rfl := List.length_eq_zero_iff.1 h64
  subst h61
  subst h62
  have HX := Aside0.mk hx
  have HY := Aside0.mk hy
  have H7 := Aside0.mk h7
  clear h2 h3 h4 h5 h7 hx hy h63 h64
  obtain ⟨a, rfl⟩ := Int.eq_ofNat_of_zero_le q3
  have hw16 : wrap64 (a : Int) = (a : Int) := by unfold wrap64; omega
  have htm : Int.tmod (a : Int) (b.length : Int) = ((a % b.length : Nat) : Int) := rfl
  have hkl : a % b.length < b.length := Nat.mod_lt _ q1
  rw [htm, Int.toNat_natCast] at HX
  generalize a % b.length = n at htm hkl HX
  have HTM := Aside0.mk htm
  have HW16 := Aside0.mk hw16
  clear htm hw16
  have hb0 : ((b.length : Int) == 0) = false := by rw [beq_eq_false_iff_ne]; omega
  have hbn : (b = []) = False := eq_false (fun e => by rw [e] at q1; exact absurd q1 (Nat.lt_irrefl _))
  obtain ⟨i0_, hi0_, _, hsz_, _⟩ := info_parts info5
  have hcut := cut_to (P := Try.prog) 25 5 .i64 Try.underlying25 hi0_ A3 b.length c3 (n : Int) (by omega) (by omega) HKC.out
  simp only [Int.toNat_natCast] at hcut
  have hlt : (b.take n).length = n := by rw [List.length_take]; omega
  have HCX := Aside0.mk (wire_Get.calls k (fun _ => True) A3 c3 (b.take n) [] 2 w3 (by rw [hlt]; exact Kd.R_V (Kd.R_take HO3.out (by omega))) HX.out)
  rw [hlt] at HCX
  clear hi0_ hsz_ hlt HX
  have htm := HTM.out
  have hw16 := HW16.out
  clear HTM HW16
  go_wp2_with (fail)
  clear htm hw16
  refine HCX.out.mono ?_
  rintro e w4 ⟨v4, rfl, h4, hb⟩
  obtain ⟨A4, c4, rfl⟩ := Kd.R_slice h4
  have HO4 := Aside0.mk (Kd.R_below HO3.out hb)
  have HB4 := Aside0.mk (below_step HB3.out hb)
  have HR4 := Aside0.mk (Kd.C_below HR2.out HB4.out)
  have hl2 : l2.length ≤ 100 := by omega
  clear h4 hb HO3 HB3 HCX
  go_wp2_with (first
    | ((with_reducible refine gate_dst (N := 55) rfl ?_); refine Kd.R_lit (Kd.int .u8) (w0 := w4) w4.heap.size 5 ?hg (N := 55) ?hd (xs := []) (inner := []) (ok := fun _ => True) (okp := fun _ => False) ?hr ?hp (fun _ hk => hk.elim) trivial (Below.refl _ _) (Nat.le_refl _) (by simp) ?_; (case hd => rfl); (case hg => rfl); (case hr => first | (go_simp; done) | (go_simp; rfl)); (case hp => exact (Reps.none _ _)); intro v5 w5 ho hb hg_ hnew_; clear hg_ hnew_; have HO5 := Aside0.mk ho; have HB5 := Aside0.mk hb; clear ho hb)
    | (at_builtin; refine Kd.R_append_rows (Kd.int .u8) (w0 := w4) w4.heap.size rfl (.tmp 55) (.tmp 56) 25 5 (.int .u8 0) 1 rfl Try.underlying25 info5 rfl (by decide) (by omega) v5 [] b _ _ _ (fun _ => True) (fun _ => False) rfl rfl HO5.out (Kd.C_below (Kd.R_reads' HO4.out).2.2 HB5.out) (fun _ _ h => h) (fun _ h => h.elim) (fun _ _ => trivial) HB5.out (below_size HB5.out) (by simp only [List.length_nil]; omega) ?_; intro v6 w6 ho hb hg_ hat_; clear hg_ hat_; rw [List.nil_append] at ho; have HO6 := Aside0.mk ho; have HB6 := Aside0.mk hb; clear ho hb HO5 HB5; go_wp2_with (first | (at_builtin; refine Kd.R_append_rows (Kd.int .u8) (w0 := w4) w4.heap.size rfl (.tmp 57) (.tmp 58) 25 5 (.int .u8 0) 1 rfl Try.underlying25 info5 rfl (by decide) (by omega) v6 b l2 A2 l2.length c2 (fun _ => True) (fun _ => False) rfl rfl HO6.out (Kd.C_below HR4.out HB6.out) (fun _ _ h => h) (fun _ h => h.elim) (fun _ _ => trivial) HB6.out (below_size HB6.out) (by omega) ?_; intro v7 w7 ho hb hg_ hat_; clear hg_ hat_; obtain ⟨A7, c7, e7⟩ := Kd.R_slice ho; subst e7; have HO7 := Aside0.mk ho; have HB7 := Aside0.mk hb; have HCY := wire_Get.calls k (fun _ => True) A7 c7 (b ++ l2) [] 3 w7 (Kd.R_V HO7.out) HY.out; rw [List.length_append] at HCY; replace HCY := Aside0.mk HCY; clear ho hb HO6 HB6; clear h2 h61 h62 hcut hbn; go_wp2_with (fail); refine HCY.out.mono ?_; rintro e w8 ⟨v8, rfl, h8, hb⟩; obtain ⟨A8, c8, rfl⟩ := Kd.R_slice h8; have HB8 := Aside0.mk (below_step (below_step HB4.out HB7.out) hb); clear h8 hb HCY HO7 HB7; go_wp2_with (fail); obtain ⟨rfl, hq⟩ := FIN.out _ HB8.out H7.out; refine hq.mono ?_; rintro e w9 ⟨rfl, hb⟩; go_wp2_with (fail); go_ret; exact ⟨rfl, hb⟩))))

/-- THE ONE PURE STATEMENT of merkhetlaw04_WireCuts. -/
def merkhetlaw04_WireCuts.Pure : Prop := ∀ (l0 : List (S77)) (a1 : Int) (l2 : List Int), l0.length ≤ maxLen → (∀ x0_ ∈ l0, ((Lit.int .u64 x0_.f0).wf = true ∧ (Lit.int .u64 x0_.f1).wf = true ∧ (Lit.int .u64 x0_.f2).wf = true ∧ (Lit.int .u8 x0_.f3).wf = true ∧ x0_.f4.size ≤ maxLen ∧ x0_.f5.size ≤ maxLen ∧ (Lit.int .i64 x0_.f6).wf = true ∧ (Lit.int .i64 x0_.f7).wf = true)) → (Lit.int .u16 a1).wf = true → l2.length ≤ maxLen → l2.length * 1 ≤ 140737488351232 → (∀ x0_ ∈ l2, (Lit.int .u8 x0_).wf = true) → ∃ k, merkhetlaw04_WireCuts.f k l0 a1 l2 = some true


/-! ### merkhetref01_Same: function 18 -/
def merkhetref01_Same.l0 : Nat → List (S77) → List (S77) → Int → Option (Bool)
  | 0, _, _, _ => none
  | k + 1, x0, x1, x5 => if x5 < (x0.length : Int) then (if 0 ≤ x5 then (if x5 < (x1.length : Int) then (if (!(((rd_T77 x0 x5).f0) == ((rd_T77 x1 x5).f0)) || (!(((rd_T77 x0 x5).f1) == ((rd_T77 x1 x5).f1)) || (!(((rd_T77 x0 x5).f2) == ((rd_T77 x1 x5).f2)) || (!(((rd_T77 x0 x5).f3) == ((rd_T77 x1 x5).f3)) || (!((((rd_T77 x0 x5).f4).toList) == (((rd_T77 x1 x5).f4).toList)) || (!((((rd_T77 x0 x5).f5).toList) == (((rd_T77 x1 x5).f5).toList)) || (!(((rd_T77 x0 x5).f6) == ((rd_T77 x1 x5).f6)) || (!(((rd_T77 x0 x5).f7) == ((rd_T77 x1 x5).f7)))))))))) = true then (some false) else (merkhetref01_Same.l0 k x0 x1 (wrap64 (x5 + 1)))) else (none)) else (none)) else (some true)
def merkhetref01_Same.f (k : Nat) (l0 : List (S77)) (l1 : List (S77)) : Option (Bool) := if (l0.length : Int) = (l1.length : Int) then (merkhetref01_Same.l0 k l0 l1 0) else (some false)
theorem merkhetref01_Same.mono_l : ∀ k, (∀ y0 y1 y2, LeO (merkhetref01_Same.l0 k y0 y1 y2) (merkhetref01_Same.l0 (k + 1) y0 y1 y2))
  | 0 => fun _ _ _ r h => by simp [merkhetref01_Same.l0] at h
  | k + 1 => by
    have ih0 := merkhetref01_Same.mono_l k
    · intro y0 y1 y2
      unfold merkhetref01_Same.l0
      repeat' first
      | (with_reducible exact ih0 _ _ _)
      | (with_reducible exact LeO.refl _)
      | (with_reducible exact LeO.none _)
      | (with_reducible refine LeO.ite ?_ ?_)
      | (with_reducible refine LeO.bind ?_ (fun _ => ?_))
      | exact ih0 _ _ _
      | exact LeO.none _
      | refine LeO.ite ?_ ?_
      | refine LeO.bind ?_ (fun _ => ?_)
theorem merkhetref01_Same.mono : ∀ a0 a1 k, LeO (merkhetref01_Same.f k a0 a1) (merkhetref01_Same.f (k + 1) a0 a1) := by
  intro a0 a1 k
  have ih0 := merkhetref01_Same.mono_l k
  unfold merkhetref01_Same.f
  repeat' first
      | (with_reducible exact ih0 _ _ _)
      | (with_reducible exact LeO.refl _)
      | (with_reducible exact LeO.none _)
      | (with_reducible refine LeO.ite ?_ ?_)
      | (with_reducible refine LeO.bind ?_ (fun _ => ?_))
      | exact ih0 _ _ _
      | exact LeO.none _
      | refine LeO.ite ?_ ?_
      | refine LeO.bind ?_ (fun _ => ?_)
set_option maxHeartbeats 8000000 in
set_option maxRecDepth 100000 in
theorem merkhetref01_Same.calls (k : Nat) (A0 : Option Addr) (c0 : Nat) (l0 : List (S77)) (A1 : Option Addr) (c1 : Nat) (l1 : List (S77)) (r : Bool) (w : World) (hr0 : Kd.C k77 w A0 l0.length l0) (hc0 : l0.length ≤ c0) (hr1 : Kd.C k77 w A1 l1.length l1) (hc1 : l1.length ≤ c1) (h : merkhetref01_Same.f k l0 l1 = some r) :
    Calls Try.prog 18 #[.slice A0 l0.length c0, .slice A1 l1.length c1] w fun e w' => e = .returned (.bool r) ∧ Drawn0 w w' := by
  have hu77 := Try.underlying77
  have HR0 := Aside0.mk hr0
  have HC0 := Aside0.mk hc0
  clear hr0 hc0
  have HR1 := Aside0.mk hr1
  have HC1 := Aside0.mk hc1
  clear hr1 hc1
  have H : (if (l0.length : Int) = (l1.length : Int) then (merkhetref01_Same.l0 k l0 l1 0) else (some false)) = some r := h
  clear h
  by_cases c3 : (l0.length : Int) = (l1.length : Int)
  · rw [if_pos c3] at H
    have c3b0 : ((l0.length : Int) == (l1.length : Int)) = true := beq_iff_eq.mpr c3
    have c3b1 : ((l0.length : Int) != (l1.length : Int)) = false := bne_eq_false_iff_eq.mpr c3
    have c3b2 : (l0.length == l1.length) = true := by first | simpa using c3 | (simp at c3 ⊢; omega)
    clear c3
    have H' := Aside0.mk H
    clear H
    go_enter Try.func18, Try.ntmps18
    go_wp2
    repeat (go_quiet (fail); try go_wp2)
    go_loopg [5] k (fun kq v5 w' => ∃ (x5_1 : Int), v5 = .int .i64 x5_1 ∧ Aside0 (merkhetref01_Same.l0 kq l0 l1 x5_1 = some r) ∧ Aside0 (kq ≤ k) ∧ Drawn0 w w')
    case atStart => exact ⟨(0), (by first | rfl | (simp; done) | (simp [*]; done)), H', ⟨Nat.le_refl _⟩, by repeat (first | exact Drawn0.refl _ | apply Drawn0.step)⟩
    case round =>
      clear H'
      try clear c1
      try clear p2
      try clear c3
      try clear c3b0
      try clear c3b1
      try clear c3b2
      obtain ⟨x5_1, rfl, HA, HK1, ⟨m1, rfl⟩⟩ := hrel
      cases gk with
      | zero => exact absurd HA.out (by simp [merkhetref01_Same.l0])
      | succ k1 =>
        have H := HA.out
        clear HA
        simp only [merkhetref01_Same.l0] at H
        by_cases c4 : x5_1 < (l0.length : Int)
        · rw [if_pos c4] at H
          have c4b0 : decide (x5_1 < (l0.length : Int)) = true := decide_eq_true c4
          clear c4
          by_cases c5 : 0 ≤ x5_1
          · rw [if_pos c5] at H
            have c5b0 : decide (0 ≤ x5_1) = true := decide_eq_true c5
            clear c5
            by_cases c6 : x5_1 < (l1.length : Int)
            · rw [if_pos c6] at H
              have c6b0 : decide (x5_1 < (l1.length : Int)) = true := decide_eq_true c6
              clear c6
              by_cases c7 : (!(((rd_T77 l0 x5_1).f0) == ((rd_T77 l1 x5_1).f0)) || (!(((rd_T77 l0 x5_1).f1) == ((rd_T77 l1 x5_1).f1)) || (!(((rd_T77 l0 x5_1).f2) == ((rd_T77 l1 x5_1).f2)) || (!(((rd_T77 l0 x5_1).f3) == ((rd_T77 l1 x5_1).f3)) || (!((((rd_T77 l0 x5_1).f4).toList) == (((rd_T77 l1 x5_1).f4).toList)) || (!((((rd_T77 l0 x5_1).f5).toList) == (((rd_T77 l1 x5_1).f5).toList)) || (!(((rd_T77 l0 x5_1).f6) == ((rd_T77 l1 x5_1).f6)) || (!(((rd_T77 l0 x5_1).f7) == ((rd_T77 l1 x5_1).f7)))))))))) = true
              · rw [if_pos c7] at H
                have c7b0 : (!(((rd_T77 l0 x5_1).f0) == ((rd_T77 l1 x5_1).f0)) || (!(((rd_T77 l0 x5_1).f1) == ((rd_T77 l1 x5_1).f1)) || (!(((rd_T77 l0 x5_1).f2) == ((rd_T77 l1 x5_1).f2)) || (!(((rd_T77 l0 x5_1).f3) == ((rd_T77 l1 x5_1).f3)) || (!((((rd_T77 l0 x5_1).f4).toList) == (((rd_T77 l1 x5_1).f4).toList)) || (!((((rd_T77 l0 x5_1).f5).toList) == (((rd_T77 l1 x5_1).f5).toList)) || (!(((rd_T77 l0 x5_1).f6) == ((rd_T77 l1 x5_1).f6)) || (!(((rd_T77 l0 x5_1).f7) == ((rd_T77 l1 x5_1).f7)))))))))) = true := c7
                clear c7
                obtain rfl := Option.some.inj H
                have p213 : 0 ≤ (x5_1 : Int) := of_decide_eq_true (by first | (with_reducible assumption) | assumption)
                have q213 : x5_1 < (l0.length : Int) := of_decide_eq_true (by first | (with_reducible assumption) | assumption)
                obtain ⟨ad213, e213, hx213_0, hx213_1, hx213_2, hx213_3, hx213_4, hx213_5, hx213_6, hx213_7⟩ := at_T77 HR0.out x5_1 p213 q213
                cases e213
                replace p213 := eq_true p213
                replace q213 := eq_true q213
                have p214 : 0 ≤ (x5_1 : Int) := of_decide_eq_true (by first | (with_reducible assumption) | assumption)
                have q214 : x5_1 < (l1.length : Int) := of_decide_eq_true (by first | (with_reducible assumption) | assumption)
                obtain ⟨ad214, e214, hx214_0, hx214_1, hx214_2, hx214_3, hx214_4, hx214_5, hx214_6, hx214_7⟩ := at_T77 HR1.out x5_1 p214 q214
                cases e214
                replace p214 := eq_true p214
                replace q214 := eq_true q214
                go_wp2
                repeat (go_quiet (fail); try go_wp2)
                go_ret
                exact ⟨by first | rfl | (simp; done) | (simp [*]; done), by repeat (first | exact Drawn0.refl _ | apply Drawn0.step)⟩
              · rw [if_neg c7] at H
                have c7b0 : (!(((rd_T77 l0 x5_1).f0) == ((rd_T77 l1 x5_1).f0)) || (!(((rd_T77 l0 x5_1).f1) == ((rd_T77 l1 x5_1).f1)) || (!(((rd_T77 l0 x5_1).f2) == ((rd_T77 l1 x5_1).f2)) || (!(((rd_T77 l0 x5_1).f3) == ((rd_T77 l1 x5_1).f3)) || (!((((rd_T77 l0 x5_1).f4).toList) == (((rd_T77 l1 x5_1).f4).toList)) || (!((((rd_T77 l0 x5_1).f5).toList) == (((rd_T77 l1 x5_1).f5).toList)) || (!(((rd_T77 l0 x5_1).f6) == ((rd_T77 l1 x5_1).f6)) || (!(((rd_T77 l0 x5_1).f7) == ((rd_T77 l1 x5_1).f7)))))))))) = false := by simpa using c7
                clear c7
                have H' := Aside0.mk H
                clear H
                have p213 : 0 ≤ (x5_1 : Int) := of_decide_eq_true (by first | (with_reducible assumption) | assumption)
                have q213 : x5_1 < (l0.length : Int) := of_decide_eq_true (by first | (with_reducible assumption) | assumption)
                obtain ⟨ad213, e213, hx213_0, hx213_1, hx213_2, hx213_3, hx213_4, hx213_5, hx213_6, hx213_7⟩ := at_T77 HR0.out x5_1 p213 q213
                cases e213
                replace p213 := eq_true p213
                replace q213 := eq_true q213
                have p214 : 0 ≤ (x5_1 : Int) := of_decide_eq_true (by first | (with_reducible assumption) | assumption)
                have q214 : x5_1 < (l1.length : Int) := of_decide_eq_true (by first | (with_reducible assumption) | assumption)
                obtain ⟨ad214, e214, hx214_0, hx214_1, hx214_2, hx214_3, hx214_4, hx214_5, hx214_6, hx214_7⟩ := at_T77 HR1.out x5_1 p214 q214
                cases e214
                replace p214 := eq_true p214
                replace q214 := eq_true q214
                go_wp2
                repeat (go_quiet (fail); try go_wp2)
                go_roundg k1
                case measure => have := HK1.out; omega
                case rel => exact ⟨(wrap64 (x5_1 + 1)), (by first | rfl | (simp; done) | (simp [*]; done)), H', ⟨by have := HK1.out; omega⟩, by repeat (first | exact Drawn0.refl _ | apply Drawn0.step)⟩
            · rw [if_neg c6] at H
              exact absurd H (by simp)
          · rw [if_neg c5] at H
            exact absurd H (by simp)
        · rw [if_neg c4] at H
          have c4b0 : decide (x5_1 < (l0.length : Int)) = false := decide_eq_false c4
          clear c4
          obtain rfl := Option.some.inj H
          go_wp2
          repeat (go_quiet (fail); try go_wp2)
          go_ret
          exact ⟨by first | rfl | (simp; done) | (simp [*]; done), by repeat (first | exact Drawn0.refl _ | apply Drawn0.step)⟩
  · rw [if_neg c3] at H
    have c3b0 : ((l0.length : Int) == (l1.length : Int)) = false := beq_eq_false_iff_ne.mpr c3
    have c3b1 : ((l0.length : Int) != (l1.length : Int)) = true := bne_iff_ne.mpr c3
    have c3b2 : (l0.length == l1.length) = false := by first | simpa using c3 | (simp at c3 ⊢; omega)
    obtain rfl := Option.some.inj H
    go_enter Try.func18, Try.ntmps18
    go_wp2
    repeat (go_quiet (fail); try go_wp2)
    go_ret
    exact ⟨by first | rfl | (simp; done) | (simp [*]; done), by repeat (first | exact Drawn0.refl _ | apply Drawn0.step)⟩

/-! ### merkhetref02_Count: function 59 -/
def merkhetref02_Count.f (a0 : Int) : Option (Int) := if a0 < 0 then (some 0) else (if a0 > 8 then (some 8) else (some a0))
set_option maxHeartbeats 8000000 in
set_option maxRecDepth 100000 in
theorem merkhetref02_Count.calls (a0 : Int) (r : Int) (w : World) (h : merkhetref02_Count.f a0 = some r) :
    Calls Try.prog 59 #[.int .i64 a0] w fun e w' => e = .returned (.int .i64 r) ∧ Drawn0 w w' := by
  have H : (if a0 < 0 then (some 0) else (if a0 > 8 then (some 8) else (some a0))) = some r := h
  clear h
  by_cases c2 : a0 < 0
  · rw [if_pos c2] at H
    have c2b0 : decide (a0 < 0) = true := decide_eq_true c2
    clear c2
    obtain rfl := Option.some.inj H
    go_enter Try.func59, Try.ntmps59
    go_wp2
    go_ret
    exact ⟨by first | rfl | (simp; done) | (simp [*]; done), by repeat (first | exact Drawn0.refl _ | apply Drawn0.step)⟩
  · rw [if_neg c2] at H
    have c2b0 : decide (a0 < 0) = false := decide_eq_false c2
    clear c2
    by_cases c3 : a0 > 8
    · rw [if_pos c3] at H
      have c3b0 : decide (8 < a0) = true := decide_eq_true c3
      clear c3
      obtain rfl := Option.some.inj H
      go_enter Try.func59, Try.ntmps59
      go_wp2
      go_ret
      exact ⟨by first | rfl | (simp; done) | (simp [*]; done), by repeat (first | exact Drawn0.refl _ | apply Drawn0.step)⟩
    · rw [if_neg c3] at H
      have c3b0 : decide (8 < a0) = false := decide_eq_false c3
      clear c3
      obtain rfl := Option.some.inj H
      go_enter Try.func59, Try.ntmps59
      go_wp2
      go_ret
      exact ⟨by first | rfl | (simp; done) | (simp [*]; done), by repeat (first | exact Drawn0.refl _ | apply Drawn0.step)⟩

/-! ### merkhetref02_Put: function 41 -/
def merkhetref02_Put.l0 : Nat → Int → Int → ByteArray → Int → Option (ByteArray)
  | 0, _, _, _, _ => none
  | k + 1, x0, x1, x5, x6 => (merkhetref02_Count.f x1).bind fun t215 => (if x6 < t215 then ((some (([(Int.tmod x0 256) % 256] : List Int) : List Int)).bind fun y216 => (if x5.size + (strOfNums y216).size ≤ 9223372036854775807 then (merkhetref02_Put.l0 k (IntKind.u64.wrap (Int.tdiv x0 256)) x1 (x5 ++ (strOfNums y216)) (wrap64 (x6 + 1))) else (none))) else (some x5))
def merkhetref02_Put.f (k : Nat) (a0 : Int) (a1 : Int) : Option (ByteArray) := merkhetref02_Put.l0 k a0 a1 (⟨#[]⟩ : ByteArray) 0
theorem merkhetref02_Put.mono_l : ∀ k, (∀ y0 y1 y2 y3, LeO (merkhetref02_Put.l0 k y0 y1 y2 y3) (merkhetref02_Put.l0 (k + 1) y0 y1 y2 y3))
  | 0 => fun _ _ _ _ r h => by simp [merkhetref02_Put.l0] at h
  | k + 1 => by
    have ih0 := merkhetref02_Put.mono_l k
    · intro y0 y1 y2 y3
      unfold merkhetref02_Put.l0
      repeat' first
      | (with_reducible exact ih0 _ _ _ _)
      | (with_reducible exact LeO.refl _)
      | (with_reducible exact LeO.none _)
      | (with_reducible refine LeO.ite ?_ ?_)
      | (with_reducible refine LeO.bind ?_ (fun _ => ?_))
      | exact ih0 _ _ _ _
      | exact LeO.none _
      | refine LeO.ite ?_ ?_
      | refine LeO.bind ?_ (fun _ => ?_)
theorem merkhetref02_Put.mono : ∀ a0 a1 k, LeO (merkhetref02_Put.f k a0 a1) (merkhetref02_Put.f (k + 1) a0 a1) := by
  intro a0 a1 k
  have ih0 := merkhetref02_Put.mono_l k
  unfold merkhetref02_Put.f
  repeat' first
      | (with_reducible exact ih0 _ _ _ _)
      | (with_reducible exact LeO.refl _)
      | (with_reducible exact LeO.none _)
      | (with_reducible refine LeO.ite ?_ ?_)
      | (with_reducible refine LeO.bind ?_ (fun _ => ?_))
      | exact ih0 _ _ _ _
      | exact LeO.none _
      | refine LeO.ite ?_ ?_
      | refine LeO.bind ?_ (fun _ => ?_)
set_option maxHeartbeats 8000000 in
set_option maxRecDepth 100000 in
theorem merkhetref02_Put.calls (k : Nat) (a0 : Int) (a1 : Int) (r : ByteArray) (w : World) (h : merkhetref02_Put.f k a0 a1 = some r) :
    Calls Try.prog 41 #[.int .u64 a0, .int .i64 a1] w fun e w' => e = .returned (.string r) ∧ Below w.heap.size w w' := by
  have HB := Aside0.mk (Below.refl w.heap.size w)
  have H : (merkhetref02_Put.l0 k a0 a1 (⟨#[]⟩ : ByteArray) 0) = some r := h
  clear h
  have H' := Aside0.mk H
  clear H
  go_enter Try.func41, Try.ntmps41
  go_wp2
  go_loopg [0, 5, 6] k (fun kq v0 v5 v6 w' => ∃ (x0_1 : Int) (x5_1 : ByteArray) (x6_1 : Int), v0 = .int .u64 x0_1 ∧ v5 = .string x5_1 ∧ v6 = .int .i64 x6_1 ∧ Aside0 (merkhetref02_Put.l0 kq x0_1 a1 x5_1 x6_1 = some r) ∧ Aside0 (kq ≤ k) ∧ Aside0 (Below w.heap.size w w'))
  case atStart => exact ⟨(a0), ((⟨#[]⟩ : ByteArray)), (0), (by first | rfl | (simp; done) | (simp [*]; done)), (by first | rfl | (simp; done) | (simp [*]; done)), (by first | rfl | (simp; done) | (simp [*]; done)), H', ⟨Nat.le_refl _⟩, ⟨by repeat (first | (with_reducible first | exact HB.out | apply below_alloc | apply pw_below_drewN | apply below_drew1) | exact HB.out)⟩⟩
  case round =>
    clear H'
    try clear p2
    obtain ⟨x0_1, x5_1, x6_1, rfl, rfl, rfl, HA, HK1, HB⟩ := hrel
    cases gk with
    | zero => exact absurd HA.out (by simp [merkhetref02_Put.l0])
    | succ k1 =>
      have H := HA.out
      clear HA
      simp only [merkhetref02_Put.l0] at H
      replace H := Option.bind_eq_some_iff.mp H
      obtain ⟨t215, A30, H⟩ := H
      replace H : (if x6_1 < t215 then ((some (([(Int.tmod x0_1 256) % 256] : List Int) : List Int)).bind fun y216 => (if x5_1.size + (strOfNums y216).size ≤ 9223372036854775807 then (merkhetref02_Put.l0 k1 (IntKind.u64.wrap (Int.tdiv x0_1 256)) a1 (x5_1 ++ (strOfNums y216)) (wrap64 (x6_1 + 1))) else (none))) else (some x5_1)) = some r := H
      have A3 := Aside0.mk A30
      clear A30
      by_cases c4 : x6_1 < t215
      · rw [if_pos c4] at H
        have c4b0 : decide (x6_1 < t215) = true := decide_eq_true c4
        clear c4
        obtain ⟨y216, hy216⟩ : ∃ y_ : List Int, y_ = (([(Int.tmod x0_1 256) % 256] : List Int)) := ⟨_, rfl⟩
        replace H : (if x5_1.size + (strOfNums y216).size ≤ 9223372036854775807 then (merkhetref02_Put.l0 k1 (IntKind.u64.wrap (Int.tdiv x0_1 256)) a1 (x5_1 ++ (strOfNums y216)) (wrap64 (x6_1 + 1))) else (none)) = some r := by first | (rw [hy216]; with_reducible exact H) | (have H2_ := (Option.bind_some _ _).symm.trans H; rw [hy216]; with_reducible exact H2_) | (have H2_ := (Option.bind_some _ _).symm.trans H; with_reducible exact H2_) | with_reducible exact H | (rw [hy216]; exact H) | exact H
        have Ny216 := Aside0.mk hy216
        clear hy216
        by_cases c5 : x5_1.size + (strOfNums y216).size ≤ 9223372036854775807
        · rw [if_pos c5] at H
          have c5b0 := eq_true c5
          have c5b1 : decide (x5_1.size + (strOfNums y216).size ≤ 9223372036854775807) = true := decide_eq_true c5
          try have c5b2 : (9223372036854775807 < x5_1.size + (strOfNums y216).size) = False := eq_false (Nat.not_lt.2 c5)
          have H' := Aside0.mk H
          clear H
          go_wp2_with (first | ((with_reducible refine gate_callee (f := 59) rfl ?_); refine goesL_ (some 9) rfl rfl Try.func59 (by kernel_rfl) rfl #[.int .i64 a1] rfl (by (try simp only [List.map_toArray, List.map_cons, List.map_nil]); first | done | rfl | (simp only [List.length_drop, List.length_take]; rfl) | (rw [Go.Proofs.Ytdpodjgggicaoaa.H.u64_id _ (by simp only [decide_eq_false_iff_not, decide_eq_true_eq, Nat.not_lt, Int.not_lt] at *; omega) (by simp only [decide_eq_false_iff_not, decide_eq_true_eq, Nat.not_lt, Int.not_lt] at *; omega)]; rfl)) ?_; (with_reducible refine (merkhetref02_Count.calls a1 t215 _ A3.out).mono ?_); rintro e w' ⟨rfl, ⟨nd, rfl⟩⟩; refine ⟨_, rfl, ?_⟩) | ((with_reducible refine gate_dst (N := 17) rfl ?_); refine Kd.R_lit (Kd.int .u8) _ 5 ?hg (N := 17) ?hd (xs := ([(Int.tmod x0_1 256) % 256] : List Int)) (inner := [.int .u8 ((Int.tmod x0_1 256) % 256)]) (ok := fun _ => True) (okp := fun _ => True) ?hr ?hp (fun _ hk => hk) trivial (Below.refl _ _) (Nat.le_refl _) (by simp) ?_; (case hd => rfl); (case hg => rfl); (case hr => first | (go_simp; done) | (go_simp; rfl)); (case hp => exact (Reps.one (show Kd.M (Kd.int .u8) _ _ _ ((Int.tmod x0_1 256) % 256) [.int .u8 ((Int.tmod x0_1 256) % 256)] from rfl) (Reps.none _ _))); intro v217 w6 ho7 hb hg_ hnew_; clear hg_ hnew_; (first | rw [← Ny216.out] at ho7 | (simp only [Int.reduceToNat] at ho7; rw [← Ny216.out] at ho7)); have n0_ := Aside0.mk (Kd.R_lower ho7 (below_size (by repeat (first | (with_reducible first | exact HB.out | apply below_alloc | apply pw_below_drewN | apply below_drew1) | exact HB.out)))); have n1_ := Aside0.mk (below_step (by repeat (first | (with_reducible first | exact HB.out | apply below_alloc | apply pw_below_drewN | apply below_drew1) | exact HB.out)) hb); clear HB; have HO218 := n0_; have HB := n1_; clear n0_ n1_; clear hb ho7; have hcv8 := own_string (P := Try.prog) Try.underlying25 Try.underlying5 Try.underlying9 (Kd.own_of_R HO218.out)))
          go_roundg k1
          case measure => have := HK1.out; omega
          case rel => exact ⟨(IntKind.u64.wrap (Int.tdiv x0_1 256)), (x5_1 ++ (strOfNums y216)), (wrap64 (x6_1 + 1)), (by first | rfl | (simp; done) | (simp [*]; done)), (by first | rfl | (simp; done) | (simp [*]; done)), (by first | rfl | (simp; done) | (simp [*]; done)), H', ⟨by have := HK1.out; omega⟩, ⟨by repeat (first | (with_reducible first | exact HB.out | apply below_alloc | apply pw_below_drewN | apply below_drew1) | exact HB.out)⟩⟩
        · rw [if_neg c5] at H
          exact absurd H (by simp)
      · rw [if_neg c4] at H
        have c4b0 : decide (x6_1 < t215) = false := decide_eq_false c4
        clear c4
        obtain rfl := Option.some.inj H
        go_wp2_with (first | ((with_reducible refine gate_callee (f := 59) rfl ?_); refine goesL_ (some 9) rfl rfl Try.func59 (by kernel_rfl) rfl #[.int .i64 a1] rfl (by (try simp only [List.map_toArray, List.map_cons, List.map_nil]); first | done | rfl | (simp only [List.length_drop, List.length_take]; rfl) | (rw [Go.Proofs.Ytdpodjgggicaoaa.H.u64_id _ (by simp only [decide_eq_false_iff_not, decide_eq_true_eq, Nat.not_lt, Int.not_lt] at *; omega) (by simp only [decide_eq_false_iff_not, decide_eq_true_eq, Nat.not_lt, Int.not_lt] at *; omega)]; rfl)) ?_; (with_reducible refine (merkhetref02_Count.calls a1 t215 _ A3.out).mono ?_); rintro e w' ⟨rfl, ⟨nd, rfl⟩⟩; refine ⟨_, rfl, ?_⟩))
        go_ret
        exact ⟨by first | rfl | (simp [errW_none, errW_some] <;> rfl) | (simp [*, errW_none, errW_some] <;> rfl), by repeat (first | (with_reducible first | exact HB.out | apply below_alloc | apply pw_below_drewN | apply below_drew1) | exact HB.out)⟩

end Go.Proofs.Ytdpodjgggicaoaa.CW
