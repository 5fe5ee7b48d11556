-- WRITTEN FOR THIS CLAIM by wip/tools/mp.py, a program of this project that drives the kit's print; the functions that the print does not take are this project's own texts.
import Derived.Test.YtdpodjgggicaoaaSSx0q
import Derived.Test.YtdpodjgggicaoaaSSx1q
import Derived.Test.YtdpodjgggicaoaaSSx6q
import Derived.Test.YtdpodjgggicaoaaSSx7q
import Derived.Test.YtdpodjgggicaoaaSSx10q
namespace Go.Proofs.Ytdpodjgggicaoaa.SS
open Go.RowKit Go.Proofs.YtdpodjgggicaoaaW.PrintWords Go.Proofs.YtdpodjgggicaoaaW.PrintLast Go.Proofs.YtdpodjgggicaoaaW.PrintMore
attribute [local go_sem] max2_int min2_int max_two min_two max_three min_three max_four min_four   -- for this text's walks alone
set_option linter.unusedVariables false
set_option linter.unusedSimpArgs false
mutual
def merkhetref07_Read.j0 : Nat → ByteArray → Int → Int → Bool → Option (Int × Int × List ByteArray × Int × Int)
  | 0, _, _, _, _ => none
  | k + 1, x0, x4, x6, x46 => if x46 = true then (some (0, 0, ([] : List ByteArray), 0, 4)) else ((merkhetref06_All.f k x0 14 (wrap64 (x6))).bind fun bt311 => (merkhetref07_Read.l0 k bt311.1 0 ((x4) % 4294967296) (wrap64 (x6)) ([] : List ByteArray) 14))
def merkhetref07_Read.l0 : Nat → List ByteArray → Int → Int → Int → List ByteArray → Int → Option (Int × Int × List ByteArray × Int × Int)
  | 0, _, _, _, _, _, _ => none
  | k + 1, x9, x11, x311000, x311001, x311002, x311003 => if x11 < (x9.length : Int) then (if 0 ≤ x11 then ((merkhetref04_Get.f k (rdOf ByteArray.empty x9 x11)).bind fun bt316 => (if bt316.2 = 0 then (if x311002.length < 8796093022208 then (merkhetref07_Read.l0 k x9 (wrap64 (x11 + 1)) x311000 x311001 (x311002 ++ [rdOf ByteArray.empty x9 x11]) (wrap64 ((wrap64 (x311003 + 6)) + ((rdOf ByteArray.empty x9 x11).size : Int)))) else (none)) else (some (x311000, x311001, x311002, x311003, 0)))) else (none)) else (some (x311000, x311001, x311002, x311003, 0))
end
def merkhetref07_Read.f (k : Nat) (a0 : ByteArray) : Option (Int × Int × List ByteArray × Int × Int) := if (a0.size : Int) < 14 then (some (0, 0, ([] : List ByteArray), 0, 2)) else (if 0 ≤ 4 then (if 4 ≤ (a0.size : Int) then (if (a0.extract 0 4).toList = ([83, 69, 71, 49] : List UInt8) then (if 0 ≤ 10 then (if 10 ≤ (a0.size : Int) then ((merkhetref03_Sum.f k (a0.extract 0 10)).bind fun t304 => ((merkhetref02_Put.f k (IntKind.u64.wrap (t304)) 4).bind fun t305 => (if 10 ≤ 14 then (if 14 ≤ (a0.size : Int) then (if t305.toList = (a0.extract 10 14).toList then ((merkhetref02_Get.f k a0 4 4).bind fun bt306 => ((merkhetref02_Get.f k a0 8 2).bind fun bt308 => (if bt308.1 < 1 then (merkhetref07_Read.j0 k a0 bt306.1 bt308.1 true) else (merkhetref07_Read.j0 k a0 bt306.1 bt308.1 (decide (bt308.1 > 16)))))) else (some (0, 0, ([] : List ByteArray), 0, 8))) else (none)) else (none)))) else (none)) else (none)) else (some (0, 0, ([] : List ByteArray), 0, 3))) else (none)) else (none))
theorem merkhetref07_Read.mono_l : ∀ k, (∀ y0 y1 y2 y3, LeO (merkhetref07_Read.j0 k y0 y1 y2 y3) (merkhetref07_Read.j0 (k + 1) y0 y1 y2 y3)) ∧ (∀ y0 y1 y2 y3 y4 y5, LeO (merkhetref07_Read.l0 k y0 y1 y2 y3 y4 y5) (merkhetref07_Read.l0 (k + 1) y0 y1 y2 y3 y4 y5))
  | 0 => ⟨fun _ _ _ _ r h => by simp [merkhetref07_Read.j0] at h, fun _ _ _ _ _ _ r h => by simp [merkhetref07_Read.l0] at h⟩
  | k + 1 => by
    obtain ⟨ih0, ih1⟩ := merkhetref07_Read.mono_l k
    refine ⟨?_, ?_⟩
    · intro y0 y1 y2 y3
      unfold merkhetref07_Read.j0
      repeat' first
      | (with_reducible exact ih0 _ _ _ _)
      | (with_reducible exact ih1 _ _ _ _ _ _)
      | (with_reducible exact merkhetref02_Get.mono _ _ _ _)
      | (with_reducible exact merkhetref02_Put.mono _ _ _)
      | (with_reducible exact merkhetref03_Sum.mono _ _)
      | (with_reducible exact merkhetref04_Get.mono _ _)
      | (with_reducible exact merkhetref06_All.mono _ _ _ _)
      | (with_reducible exact LeO.refl _)
      | (with_reducible exact LeO.none _)
      | (with_reducible refine LeO.ite ?_ ?_)
      | (with_reducible refine LeO.bind ?_ (fun _ => ?_))
      | exact ih0 _ _ _ _
      | exact ih1 _ _ _ _ _ _
      | exact merkhetref02_Get.mono _ _ _ _
      | exact merkhetref02_Put.mono _ _ _
      | exact merkhetref03_Sum.mono _ _
      | exact merkhetref04_Get.mono _ _
      | exact merkhetref06_All.mono _ _ _ _
      | exact LeO.none _
      | refine LeO.ite ?_ ?_
      | refine LeO.bind ?_ (fun _ => ?_)
    · intro y0 y1 y2 y3 y4 y5
      unfold merkhetref07_Read.l0
      repeat' first
      | (with_reducible exact ih0 _ _ _ _)
      | (with_reducible exact ih1 _ _ _ _ _ _)
      | (with_reducible exact merkhetref02_Get.mono _ _ _ _)
      | (with_reducible exact merkhetref02_Put.mono _ _ _)
      | (with_reducible exact merkhetref03_Sum.mono _ _)
      | (with_reducible exact merkhetref04_Get.mono _ _)
      | (with_reducible exact merkhetref06_All.mono _ _ _ _)
      | (with_reducible exact LeO.refl _)
      | (with_reducible exact LeO.none _)
      | (with_reducible refine LeO.ite ?_ ?_)
      | (with_reducible refine LeO.bind ?_ (fun _ => ?_))
      | exact ih0 _ _ _ _
      | exact ih1 _ _ _ _ _ _
      | exact merkhetref02_Get.mono _ _ _ _
      | exact merkhetref02_Put.mono _ _ _
      | exact merkhetref03_Sum.mono _ _
      | exact merkhetref04_Get.mono _ _
      | exact merkhetref06_All.mono _ _ _ _
      | exact LeO.none _
      | refine LeO.ite ?_ ?_
      | refine LeO.bind ?_ (fun _ => ?_)
theorem merkhetref07_Read.mono : ∀ a0 k, LeO (merkhetref07_Read.f k a0) (merkhetref07_Read.f (k + 1) a0) := by
  intro a0 k
  obtain ⟨ih0, ih1⟩ := merkhetref07_Read.mono_l k
  unfold merkhetref07_Read.f
  repeat' first
      | (with_reducible exact ih0 _ _ _ _)
      | (with_reducible exact ih1 _ _ _ _ _ _)
      | (with_reducible exact merkhetref02_Get.mono _ _ _ _)
      | (with_reducible exact merkhetref02_Put.mono _ _ _)
      | (with_reducible exact merkhetref03_Sum.mono _ _)
      | (with_reducible exact merkhetref04_Get.mono _ _)
      | (with_reducible exact merkhetref06_All.mono _ _ _ _)
      | (with_reducible exact LeO.refl _)
      | (with_reducible exact LeO.none _)
      | (with_reducible refine LeO.ite ?_ ?_)
      | (with_reducible refine LeO.bind ?_ (fun _ => ?_))
      | exact ih0 _ _ _ _
      | exact ih1 _ _ _ _ _ _
      | exact merkhetref02_Get.mono _ _ _ _
      | exact merkhetref02_Put.mono _ _ _
      | exact merkhetref03_Sum.mono _ _
      | exact merkhetref04_Get.mono _ _
      | exact merkhetref06_All.mono _ _ _ _
      | exact LeO.none _
      | refine LeO.ite ?_ ?_
      | refine LeO.bind ?_ (fun _ => ?_)
def merkhetref07_Read.T5 : Bool × List (List Nat × List Nat) := (true, [([], []), ([0], [0]), ([1], [1]), ([2], [2]), ([3, 2], [3]), ([], []), ([5], [5]), ([4, 6], [4, 6])])
def merkhetref07_Read.B5 : List Nat := [0, 1, 3, 7, 15, 0, 32, 127]
theorem merkhetref07_Read.tab5 : rtab .any (opsOf Try.f35 5) = merkhetref07_Read.T5 := by kernel_rfl
theorem merkhetref07_Read.bits5 : waitsOk merkhetref07_Read.T5.2 merkhetref07_Read.B5 = true := by kernel_rfl
def merkhetref07_Read.T19 : Bool × List (List Nat × List Nat) := (true, [([], []), ([0], [0]), ([], []), ([], []), ([2, 3], [2, 3]), ([4], [4]), ([5], [5]), ([1, 6], [1, 6]), ([0, 1, 2, 3, 4, 5, 6, 7], []), ([8, 7, 7, 0, 1, 2, 3, 4, 5, 6, 7], [7, 8])])
def merkhetref07_Read.B19 : List Nat := [0, 1, 0, 0, 12, 28, 60, 127, 255, 511]
theorem merkhetref07_Read.tab19 : rtab .any (opsOf Try.f35 19) = merkhetref07_Read.T19 := by kernel_rfl
theorem merkhetref07_Read.bits19 : waitsOk merkhetref07_Read.T19.2 merkhetref07_Read.B19 = true := by kernel_rfl
def merkhetref07_Read.T20 : Bool × List (List Nat × List Nat) := (true, [([], []), ([0], [0]), ([1], [1]), ([], []), ([], []), ([3, 4], [3, 4]), ([5], [5]), ([6], [6]), ([2, 7], [2, 7]), ([0, 1, 2, 3, 4, 5, 6, 7, 8], []), ([9, 8, 0, 1, 2, 3, 4, 5, 6, 7, 8], [8, 9])])
def merkhetref07_Read.B20 : List Nat := [0, 1, 3, 0, 0, 24, 56, 120, 255, 511, 1023]
theorem merkhetref07_Read.tab20 : rtab .any (opsOf Try.f35 20) = merkhetref07_Read.T20 := by kernel_rfl
theorem merkhetref07_Read.bits20 : waitsOk merkhetref07_Read.T20.2 merkhetref07_Read.B20 = true := by kernel_rfl
set_option maxHeartbeats 8000000 in
set_option maxRecDepth 100000 in
theorem merkhetref07_Read.calls (k : Nat) (a0 : ByteArray) (r1 : Int) (r2 : Int) (r3 : List ByteArray) (r4 : Int) (r5 : Int) (w : World) (h : merkhetref07_Read.f k a0 = some (r1, r2, r3, r4, r5)) :
    Calls Try.prog 35 #[.string a0] w fun e w' => ∃ v2_ : Value, e = .returned (.tuple #[.agg #[.int .u32 r1, .int .i64 r2, v2_, .int .i64 r4], .int .i64 r5]) ∧ Kd.R Kd.string 9 w' w.heap.size (fun _ => True) v2_ r3 ∧ Below w.heap.size w w' := by
  have hu69 := Try.underlying69
  have HB := Aside0.mk (Below.refl w.heap.size w)
  have H : (if (a0.size : Int) < 14 then (some (0, 0, ([] : List ByteArray), 0, 2)) else (if 0 ≤ 4 then (if 4 ≤ (a0.size : Int) then (if (a0.extract 0 4).toList = ([83, 69, 71, 49] : List UInt8) then (if 0 ≤ 10 then (if 10 ≤ (a0.size : Int) then ((merkhetref03_Sum.f k (a0.extract 0 10)).bind fun t304 => ((merkhetref02_Put.f k (IntKind.u64.wrap (t304)) 4).bind fun t305 => (if 10 ≤ 14 then (if 14 ≤ (a0.size : Int) then (if t305.toList = (a0.extract 10 14).toList then ((merkhetref02_Get.f k a0 4 4).bind fun bt306 => ((merkhetref02_Get.f k a0 8 2).bind fun bt308 => (if bt308.1 < 1 then (merkhetref07_Read.j0 k a0 bt306.1 bt308.1 true) else (merkhetref07_Read.j0 k a0 bt306.1 bt308.1 (decide (bt308.1 > 16)))))) else (some (0, 0, ([] : List ByteArray), 0, 8))) else (none)) else (none)))) else (none)) else (none)) else (some (0, 0, ([] : List ByteArray), 0, 3))) else (none)) else (none))) = some (r1, r2, r3, r4, r5) := h
  clear h
  by_cases c2 : (a0.size : Int) < 14
  · rw [if_pos c2] at H
    have c2b0 : decide ((a0.size : Int) < 14) = true := decide_eq_true c2
    have c2b1 : decide (a0.size < 14) = true := decide_eq_true (by omega)
    clear c2
    simp only [Option.some.injEq, Prod.mk.injEq] at H
    obtain ⟨rfl, rfl, rfl, rfl, rfl⟩ := H
    go_enter Try.func35, Try.ntmps35
    go_wp2_with (first | ((with_reducible refine gate_dst (N := 2) rfl ?_); refine box_event ?hg (N := 2) ?hd (cs := #[.int .u32 0, .int .i64 0, .slice none 0 0, .int .i64 0]) (t := 69) ?hr ?_; (case hd => rfl); (case hg => rfl); (case hr => first | (go_simp; done) | (go_simp; rfl)); intro gb303 hg w3 hbox hb; have n0_ := Aside0.mk (below_step (by repeat (first | (with_reducible first | exact HB.out | apply below_alloc | apply pw_below_drewN | apply below_drew1) | exact HB.out)) hb); have n1_ := Aside0.mk (hbox); have n2_ := Aside0.mk ((by rw [hg]; exact (below_size (by repeat (first | (with_reducible first | exact HB.out | apply below_alloc | apply pw_below_drewN | apply below_drew1) | exact HB.out))) : w.heap.size ≤ gb303)); have n3_ := Aside0.mk ((by rw [hg]; exact (below_size (by repeat (first | (with_reducible first | exact HB.out | apply below_alloc | apply pw_below_drewN | apply below_drew1) | exact HB.out))) : w.heap.size ≤ gb303)); clear HB; have HB := n0_; have BK303 := n1_; have GW303 := n2_; have GE303 := n3_; clear n0_ n1_ n2_ n3_; clear hb hbox hg; have hcz4_0 : w3.cell? ⟨gb303, 0, none⟩ = some (.int .u32 0) := (blk_cell BK303.out 0).trans rfl; have hcz4_1 : w3.cell? ⟨gb303, 1, none⟩ = some (.int .i64 0) := (blk_cell BK303.out 1).trans rfl; have hcz4_2 : w3.cell? ⟨gb303, 2, none⟩ = some (.slice none 0 0) := (blk_cell BK303.out 2).trans rfl; have hcz4_3 : w3.cell? ⟨gb303, 3, none⟩ = some (.int .i64 0) := (blk_cell BK303.out 3).trans rfl; have hfz4_0 := blk_frozen BK303.out 0; have hfz4_1 := blk_frozen BK303.out 1; have hfz4_2 := blk_frozen BK303.out 2; have hfz4_3 := blk_frozen BK303.out 3))
    refine bodyPost_ret (results_ct rfl _ _ gb303 69 #[.int .u32 0, .int .i64 0, .slice none 0 0, .int .i64 0] (0, 0) _ rfl (by (with_reducible repeat (first | refine blk_drewN ?_ _ | refine blk_drew ?_ | refine blk_alloc ?_ _)); refine blk_put (cs := #[.int .u32 0, .int .i64 0, .slice none 0 0, .int .i64 0]) ?_ 3 _ rfl; (with_reducible repeat (first | refine blk_drewN ?_ _ | refine blk_drew ?_ | refine blk_alloc ?_ _)); refine blk_put (cs := #[.int .u32 0, .int .i64 0, .slice none 0 0, .int .i64 0]) ?_ 2 _ rfl; (with_reducible repeat (first | refine blk_drewN ?_ _ | refine blk_drew ?_ | refine blk_alloc ?_ _)); refine blk_put (cs := #[.int .u32 0, .int .i64 0, .slice none 0 0, .int .i64 0]) ?_ 1 _ rfl; (with_reducible repeat (first | refine blk_drewN ?_ _ | refine blk_drew ?_ | refine blk_alloc ?_ _)); refine blk_put (cs := #[.int .u32 0, .int .i64 0, .slice none 0 0, .int .i64 0]) ?_ 0 _ rfl; (with_reducible repeat (first | refine blk_drewN ?_ _ | refine blk_drew ?_ | refine blk_alloc ?_ _)); exact BK303.out) Try.underlying69 rfl (by kernel_rfl)) rfl ?_
    exact ⟨_, by first | rfl | (simp [errW_none, errW_some] <;> rfl) | (simp [*, errW_none, errW_some] <;> rfl), by first | exact Kd.R_nil _ _ _ _ _ | exact Kd.N_nil _ _ _ _ _ | exact Kd.V_nil _ _ _ _ _ | exact Kd.Q_nil _ _ _ _ _ | exact Kd.S_nil _ _ _ _ _, by repeat (first | (with_reducible first | exact HB.out | apply below_alloc | apply pw_below_drewN | apply below_drew1 | refine below_set ?_ GE303.out) | exact HB.out)⟩
  · rw [if_neg c2] at H
    have c2b0 : decide ((a0.size : Int) < 14) = false := decide_eq_false c2
    have c2b1 : decide (a0.size < 14) = false := decide_eq_false (by omega)
    clear c2
    by_cases c5 : 0 ≤ 4
    · rw [if_pos c5] at H
      have c5b0 := eq_true c5
      have c5b1 : decide (0 ≤ 4) = true := decide_eq_true c5
      clear c5
      by_cases c6 : 4 ≤ (a0.size : Int)
      · rw [if_pos c6] at H
        have c6b0 := eq_true c6
        have c6b1 : decide (4 ≤ (a0.size : Int)) = true := decide_eq_true c6
        clear c6
        by_cases c7 : (a0.extract 0 4).toList = ([83, 69, 71, 49] : List UInt8)
        · rw [if_pos c7] at H
          have c7b0 : ((a0.extract 0 4).toList == ([83, 69, 71, 49] : List UInt8)) = true := beq_iff_eq.mpr c7
          have c7b1 : ((a0.extract 0 4).toList != ([83, 69, 71, 49] : List UInt8)) = false := bne_eq_false_iff_eq.mpr c7
          clear c7
          by_cases c8 : 0 ≤ 10
          · rw [if_pos c8] at H
            have c8b0 := eq_true c8
            have c8b1 : decide (0 ≤ 10) = true := decide_eq_true c8
            clear c8
            by_cases c9 : 10 ≤ (a0.size : Int)
            · rw [if_pos c9] at H
              have c9b0 := eq_true c9
              have c9b1 : decide (10 ≤ (a0.size : Int)) = true := decide_eq_true c9
              clear c9
              replace H := Option.bind_eq_some_iff.mp H
              obtain ⟨t304, A100, H⟩ := H
              replace H : ((merkhetref02_Put.f k (IntKind.u64.wrap (t304)) 4).bind fun t305 => (if 10 ≤ 14 then (if 14 ≤ (a0.size : Int) then (if t305.toList = (a0.extract 10 14).toList then ((merkhetref02_Get.f k a0 4 4).bind fun bt306 => ((merkhetref02_Get.f k a0 8 2).bind fun bt308 => (if bt308.1 < 1 then (merkhetref07_Read.j0 k a0 bt306.1 bt308.1 true) else (merkhetref07_Read.j0 k a0 bt306.1 bt308.1 (decide (bt308.1 > 16)))))) else (some (0, 0, ([] : List ByteArray), 0, 8))) else (none)) else (none))) = some (r1, r2, r3, r4, r5) := H
              have A10 := Aside0.mk A100
              clear A100
              replace H := Option.bind_eq_some_iff.mp H
              obtain ⟨t305, A110, H⟩ := H
              replace H : (if 10 ≤ 14 then (if 14 ≤ (a0.size : Int) then (if t305.toList = (a0.extract 10 14).toList then ((merkhetref02_Get.f k a0 4 4).bind fun bt306 => ((merkhetref02_Get.f k a0 8 2).bind fun bt308 => (if bt308.1 < 1 then (merkhetref07_Read.j0 k a0 bt306.1 bt308.1 true) else (merkhetref07_Read.j0 k a0 bt306.1 bt308.1 (decide (bt308.1 > 16)))))) else (some (0, 0, ([] : List ByteArray), 0, 8))) else (none)) else (none)) = some (r1, r2, r3, r4, r5) := H
              have A11 := Aside0.mk A110
              clear A110
              by_cases c12 : 10 ≤ 14
              · rw [if_pos c12] at H
                have c12b0 := eq_true c12
                have c12b1 : decide (10 ≤ 14) = true := decide_eq_true c12
                clear c12
                by_cases c13 : 14 ≤ (a0.size : Int)
                · rw [if_pos c13] at H
                  have c13b0 := eq_true c13
                  have c13b1 : decide (14 ≤ (a0.size : Int)) = true := decide_eq_true c13
                  clear c13
                  by_cases c14 : t305.toList = (a0.extract 10 14).toList
                  · rw [if_pos c14] at H
                    have c14b0 : (t305.toList == (a0.extract 10 14).toList) = true := beq_iff_eq.mpr c14
                    have c14b1 : (t305.toList != (a0.extract 10 14).toList) = false := bne_eq_false_iff_eq.mpr c14
                    clear c14
                    replace H := Option.bind_eq_some_iff.mp H
                    obtain ⟨⟨t306, t307⟩, A150, H⟩ := H
                    replace H : ((merkhetref02_Get.f k a0 8 2).bind fun bt308 => (if bt308.1 < 1 then (merkhetref07_Read.j0 k a0 t306 bt308.1 true) else (merkhetref07_Read.j0 k a0 t306 bt308.1 (decide (bt308.1 > 16))))) = some (r1, r2, r3, r4, r5) := H
                    have A15 := Aside0.mk A150
                    clear A150
                    replace H := Option.bind_eq_some_iff.mp H
                    obtain ⟨⟨t308, t309⟩, A160, H⟩ := H
                    replace H : (if t308 < 1 then (merkhetref07_Read.j0 k a0 t306 t308 true) else (merkhetref07_Read.j0 k a0 t306 t308 (decide (t308 > 16)))) = some (r1, r2, r3, r4, r5) := H
                    have A16 := Aside0.mk A160
                    clear A160
                    have HC17 := Aside0.mk H
                    clear H
                    go_enter Try.func35, Try.ntmps35
                    try go_wp2_with (first | ((with_reducible refine gate_dst (N := 2) rfl ?_); refine box_event ?hg (N := 2) ?hd (cs := #[.int .u32 0, .int .i64 0, .slice none 0 0, .int .i64 0]) (t := 69) ?hr ?_; (case hd => rfl); (case hg => rfl); (case hr => first | (go_simp; done) | (go_simp; rfl)); intro gb303 hg w18 hbox hb; have n0_ := Aside0.mk (below_step (by repeat (first | (with_reducible first | exact HB.out | apply below_alloc | apply pw_below_drewN | apply below_drew1) | exact HB.out)) hb); have n1_ := Aside0.mk (hbox); have n2_ := Aside0.mk ((by rw [hg]; exact (below_size (by repeat (first | (with_reducible first | exact HB.out | apply below_alloc | apply pw_below_drewN | apply below_drew1) | exact HB.out))) : w.heap.size ≤ gb303)); have n3_ := Aside0.mk ((by rw [hg]; exact (below_size (by repeat (first | (with_reducible first | exact HB.out | apply below_alloc | apply pw_below_drewN | apply below_drew1) | exact HB.out))) : w.heap.size ≤ gb303)); clear HB; have HB := n0_; have BK303 := n1_; have GW303 := n2_; have GE303 := n3_; clear n0_ n1_ n2_ n3_; clear hb hbox hg))
                    (try (rw [drewN_self w18]; generalize hq_ : World.drewN w18 _ = w18; have n0_ : Aside0 (w18.heap[gb303]? = some (.cells #[.int .u32 0, .int .i64 0, .slice none 0 0, .int .i64 0] 69 (0, 0))) := ⟨by rw [← hq_]; exact (by (with_reducible repeat (first | refine blk_drewN ?_ _ | refine blk_drew ?_ | refine blk_alloc ?_ _)); exact BK303.out)⟩; have n1_ : Aside0 (Below w.heap.size w w18) := ⟨by rw [← hq_]; exact (by repeat (first | (with_reducible first | exact HB.out | apply below_alloc | apply pw_below_drewN | apply below_drew1 | refine below_set ?_ GE303.out) | exact HB.out))⟩; clear BK303 HB hq_; have BK303 := n0_; have HB := n1_; clear n0_ n1_))
                    have n0_ := Aside0.mk (blk_drew BK303.out)
                    have n1_ := Aside0.mk (below_drew1 HB.out)
                    clear BK303
                    clear HB
                    have BK303 := n0_
                    have HB := n1_
                    clear n0_ n1_
                    refine start_ (n := 8) (S := fun w' => True) (ds := []) #[false, false, false, false, false, false, false, false] (by kernel_rfl) rfl rfl trivial (fun hHeld => ?_); refine with_tabW merkhetref07_Read.tab5 merkhetref07_Read.bits5 (fun HT_ HW_ => ?_)
                    generalize w18.drew = w19 at BK303 HB hHeld ⊢
                    refine pure_ (i := 0) (N := some 22) (v := ?_) (a' := ?_) #[true, false, false, false, false, false, false, false] rfl rfl (any_of HT_.out (by kernel_rfl)) (fun _ _ _ h => h) (Or.inl ⟨by rfl, ?_⟩) ?_ ?_
                    rotate_left
                    · intro w'
                      go_simp
                      with_reducible rfl
                    rotate_left
                    · simp only [Act.put, List.setIfInBounds_toArray, List.set_cons_zero, List.set_cons_succ, i64_w, i32_w]
                      rfl
                    refine pure_ (i := 1) (N := some 23) (v := ?_) (a' := ?_) #[true, true, false, false, false, false, false, false] rfl rfl (any_of HT_.out (by kernel_rfl)) (fun _ _ _ h => h) (Or.inl ⟨by rfl, ?_⟩) ?_ ?_
                    rotate_left
                    · intro w'
                      go_simp
                      with_reducible rfl
                    rotate_left
                    · simp only [Act.put, List.setIfInBounds_toArray, List.set_cons_zero, List.set_cons_succ, i64_w, i32_w]
                      rfl
                    refine pure_ (i := 5) (N := some 27) (v := ?_) (a' := ?_) #[true, true, false, false, false, true, false, false] rfl rfl (any_of HT_.out (by kernel_rfl)) (fun _ _ _ h => h) (Or.inl ⟨by rfl, ?_⟩) ?_ ?_
                    rotate_left
                    · intro w'
                      go_simp
                      with_reducible rfl
                    rotate_left
                    · simp only [Act.put, List.setIfInBounds_toArray, List.set_cons_zero, List.set_cons_succ, i64_w, i32_w]
                      rfl
                    refine pure_ (i := 6) (N := some 28) (v := ?_) (a' := ?_) #[true, true, false, false, false, true, true, false] rfl rfl (any_of HT_.out (by kernel_rfl)) (fun _ _ _ h => h) (Or.inl ⟨by rfl, ?_⟩) ?_ ?_
                    rotate_left
                    · intro w'
                      go_simp
                      with_reducible rfl
                    rotate_left
                    · simp only [Act.put, List.setIfInBounds_toArray, List.set_cons_zero, List.set_cons_succ, i64_w, i32_w]
                      rfl
                    refine one_ (i := 2) (N := some 24) #[true, true, true, false, false, true, true, false] rfl rfl (one_of HT_.out (by kernel_rfl)) (by decide) (fun K hK => ?_)
                    refine goes_ Try.func42 (by kernel_rfl) rfl #[.string (a0.extract 0 10)] (by rfl) rfl rfl (by (try simp only [List.map_toArray, List.map_cons, List.map_nil]); first | done | rfl | (simp only [List.length_drop, List.length_take]; rfl) | (rw [Go.Proofs.Ytdpodjgggicaoaa.H.u64_id _ (by simp only [decide_eq_false_iff_not, decide_eq_true_eq, Nat.not_lt, Int.not_lt] at *; omega) (by simp only [decide_eq_false_iff_not, decide_eq_true_eq, Nat.not_lt, Int.not_lt] at *; omega)]; rfl)) ?_
                    with_reducible refine (merkhetref03_Sum.calls k (a0.extract 0 10) t304 _ A10.out).mono ?_
                    rintro e w' ⟨rfl, ⟨nd, rfl⟩⟩
                    refine ⟨_, rfl, ?_⟩
                    refine hK.out _ _ trivial (fun hHeld => ?_)
                    clear hK K
                    refine norm_ (a' := ?_) ?_ ?_
                    rotate_left
                    · show Act.put _ (some 24) _ = _
                      simp only [Act.put, List.setIfInBounds_toArray, List.set_cons_zero, List.set_cons_succ, i64_w, i32_w]
                      rfl
                    refine pure_ (i := 3) (N := some 25) (v := ?_) (a' := ?_) #[true, true, true, true, false, true, true, false] rfl rfl (any_of HT_.out (by kernel_rfl)) (fun _ _ _ h => h) (Or.inl ⟨by rfl, ?_⟩) ?_ ?_
                    rotate_left
                    · intro w'
                      go_simp
                      with_reducible rfl
                    rotate_left
                    · simp only [Act.put, List.setIfInBounds_toArray, List.set_cons_zero, List.set_cons_succ, i64_w, i32_w]
                      rfl
                    refine one_ (i := 4) (N := some 26) #[true, true, true, true, true, true, true, false] rfl rfl (one_of HT_.out (by kernel_rfl)) (by decide) (fun K hK => ?_)
                    refine goes_ Try.func41 (by kernel_rfl) rfl #[.int .u64 (IntKind.u64.wrap (t304)), .int .i64 4] (by rfl) rfl rfl (by (try simp only [List.map_toArray, List.map_cons, List.map_nil]); first | done | rfl | (simp only [List.length_drop, List.length_take]; rfl) | (rw [Go.Proofs.Ytdpodjgggicaoaa.H.u64_id _ (by simp only [decide_eq_false_iff_not, decide_eq_true_eq, Nat.not_lt, Int.not_lt] at *; omega) (by simp only [decide_eq_false_iff_not, decide_eq_true_eq, Nat.not_lt, Int.not_lt] at *; omega)]; rfl)) ?_
                    with_reducible refine (merkhetref02_Put.calls k (IntKind.u64.wrap (t304)) 4 t305 _ A11.out).mono ?_
                    rintro e w20 ⟨rfl, hb⟩
                    refine ⟨_, rfl, ?_⟩
                    have n0_ := Aside0.mk (blk_below (g := gb303) (o := .cells #[.int .u32 0, .int .i64 0, .slice none 0 0, .int .i64 0] 69 (0, 0)) (by (with_reducible repeat (first | refine blk_drewN ?_ _ | refine blk_drew ?_ | refine blk_alloc ?_ _)); exact BK303.out) hb)
                    have n1_ := Aside0.mk (below_step (by repeat (first | (with_reducible first | exact HB.out | apply below_alloc | apply pw_below_drewN | apply below_drew1 | refine below_set ?_ GE303.out) | exact HB.out)) hb)
                    clear BK303
                    clear HB
                    have BK303 := n0_
                    have HB := n1_
                    clear n0_ n1_
                    (try clear hb)
                    (try clear hb2)
                    (try clear hk)
                    (try clear hi)
                    refine hK.out _ _ trivial (fun hHeld => ?_)
                    clear hK K
                    refine norm_ (a' := ?_) ?_ ?_
                    rotate_left
                    · show Act.put _ (some 26) _ = _
                      simp only [Act.put, List.setIfInBounds_toArray, List.set_cons_zero, List.set_cons_succ, i64_w, i32_w]
                      rfl
                    refine pure_ (i := 7) (N := some 29) (v := ?_) (a' := ?_) #[true, true, true, true, true, true, true, true] rfl rfl (any_of HT_.out (by kernel_rfl)) (fun _ _ _ h => h) (Or.inl ⟨by rfl, ?_⟩) ?_ ?_
                    rotate_left
                    · intro w'
                      go_simp
                      with_reducible rfl
                    rotate_left
                    · simp only [Act.put, List.setIfInBounds_toArray, List.set_cons_zero, List.set_cons_succ, i64_w, i32_w]
                      rfl
                    refine done_ (done_of HT_.out (by kernel_rfl)) ?_
                    go_upto_region 9 with (first | ((with_reducible refine gate_callee (f := 45) rfl ?_); refine goesL_ (some 33) rfl rfl Try.func45 (by kernel_rfl) rfl #[.string a0, .int .i64 4, .int .i64 4] rfl (by (try simp only [List.map_toArray, List.map_cons, List.map_nil]); first | done | rfl | (simp only [List.length_drop, List.length_take]; rfl) | (rw [Go.Proofs.Ytdpodjgggicaoaa.H.u64_id _ (by simp only [decide_eq_false_iff_not, decide_eq_true_eq, Nat.not_lt, Int.not_lt] at *; omega) (by simp only [decide_eq_false_iff_not, decide_eq_true_eq, Nat.not_lt, Int.not_lt] at *; omega)]; rfl)) ?_; (with_reducible refine (merkhetref02_Get.calls k a0 4 4 t306 t307 _ A15.out).mono ?_); rintro e w' ⟨rfl, ⟨nd, rfl⟩⟩; refine ⟨_, rfl, ?_⟩) | ((with_reducible refine gate_callee (f := 45) rfl ?_); refine goesL_ (some 38) rfl rfl Try.func45 (by kernel_rfl) rfl #[.string a0, .int .i64 8, .int .i64 2] rfl (by (try simp only [List.map_toArray, List.map_cons, List.map_nil]); first | done | rfl | (simp only [List.length_drop, List.length_take]; rfl) | (rw [Go.Proofs.Ytdpodjgggicaoaa.H.u64_id _ (by simp only [decide_eq_false_iff_not, decide_eq_true_eq, Nat.not_lt, Int.not_lt] at *; omega) (by simp only [decide_eq_false_iff_not, decide_eq_true_eq, Nat.not_lt, Int.not_lt] at *; omega)]; rfl)) ?_; (with_reducible refine (merkhetref02_Get.calls k a0 8 2 t308 t309 _ A16.out).mono ?_); rintro e w' ⟨rfl, ⟨nd, rfl⟩⟩; refine ⟨_, rfl, ?_⟩))
                    (try simp only [Act.put, List.setIfInBounds_toArray, List.set_cons_zero, List.set_cons_succ])
                    go_cut [46] (fun v46 wc => ∃ (kq : Nat) (x46_16 : Bool), v46 = .bool x46_16 ∧ Aside0 (merkhetref07_Read.j0 kq a0 t306 t308 x46_16 = some (r1, r2, r3, r4, r5)) ∧ Aside0 (kq ≤ k) ∧ Aside0 (wc.heap[gb303]? = some (.cells #[.int .u32 0, .int .i64 0, (.slice none 0 0), .int .i64 0] 69 (0, 0))) ∧ Aside0 (Below w.heap.size w wc))
                    case first =>
                      have H := HC17.out
                      clear HC17
                      by_cases c21 : t308 < 1
                      · rw [if_pos c21] at H
                        have c21b0 : decide (t308 < 1) = true := decide_eq_true c21
                        clear c21
                        (first | rw [c21b0] | (simp only [i64_w, i32_w]; rw [c21b0]) | skip)
                        have H' := Aside0.mk H
                        clear H
                        go_wp2
                        go_meet
                        case rel => exact ⟨_, (true), (by first | rfl | (simp; done) | (simp [*]; done)), H', ⟨by first | omega | exact Nat.le_refl _⟩, ⟨by (with_reducible repeat (first | refine blk_drewN ?_ _ | refine blk_drew ?_ | refine blk_alloc ?_ _)); exact BK303.out⟩, ⟨by repeat (first | (with_reducible first | exact HB.out | apply below_alloc | apply pw_below_drewN | apply below_drew1 | refine below_set ?_ GE303.out) | exact HB.out)⟩⟩
                      · rw [if_neg c21] at H
                        have c21b0 : decide (t308 < 1) = false := decide_eq_false c21
                        clear c21
                        (first | rw [c21b0] | (simp only [i64_w, i32_w]; rw [c21b0]) | skip)
                        have H' := Aside0.mk H
                        clear H
                        go_wp2
                        go_meet
                        case rel => exact ⟨_, (decide (t308 > 16)), (by first | rfl | (simp; done) | (simp [*]; done)), H', ⟨by first | omega | exact Nat.le_refl _⟩, ⟨by (with_reducible repeat (first | refine blk_drewN ?_ _ | refine blk_drew ?_ | refine blk_alloc ?_ _)); exact BK303.out⟩, ⟨by repeat (first | (with_reducible first | exact HB.out | apply below_alloc | apply pw_below_drewN | apply below_drew1 | refine below_set ?_ GE303.out) | exact HB.out)⟩⟩
                    case rest =>
                      clear HC17
                      try clear c1
                      try clear c2
                      try clear c2b0
                      try clear c2b1
                      try clear p2
                      try clear c3
                      try clear c4
                      try clear c5
                      try clear c5b0
                      try clear c5b1
                      try clear c6
                      try clear c6b0
                      try clear c6b1
                      try clear c7
                      try clear c7b0
                      try clear c7b1
                      try clear c8
                      try clear c8b0
                      try clear c8b1
                      try clear c9
                      try clear c9b0
                      try clear c9b1
                      try clear c12
                      try clear c12b0
                      try clear c12b1
                      try clear c13
                      try clear c13b0
                      try clear c13b1
                      try clear c14
                      try clear c14b0
                      try clear c14b1
                      try clear c21
                      try clear c21b0
                      try clear hcz4_0
                      try clear hcz4_1
                      try clear hcz4_2
                      try clear hcz4_3
                      try clear hfz4_0
                      try clear hfz4_1
                      try clear hfz4_2
                      try clear hfz4_3
                      obtain ⟨kq, x46_16, rfl, HA, HJ16, BK303, HB⟩ := hcut
                      cases kq with
                      | zero => exact absurd HA.out (by simp [merkhetref07_Read.j0])
                      | succ kj16 =>
                        have H := HA.out
                        clear HA
                        simp only [merkhetref07_Read.j0] at H
                        by_cases c22 : x46_16 = true
                        · subst c22
                          have H1 : (some (0, 0, ([] : List ByteArray), 0, 4)) = some (r1, r2, r3, r4, r5) := by rw [if_pos rfl] at H; exact H
                          clear H
                          have H := H1
                          clear H1
                          simp only [Option.some.injEq, Prod.mk.injEq] at H
                          obtain ⟨rfl, rfl, rfl, rfl, rfl⟩ := H
                          have hcz23_0 : wc.cell? ⟨gb303, 0, none⟩ = some (.int .u32 0) := (blk_cell BK303.out 0).trans rfl
                          have hcz23_1 : wc.cell? ⟨gb303, 1, none⟩ = some (.int .i64 0) := (blk_cell BK303.out 1).trans rfl
                          have hcz23_2 : wc.cell? ⟨gb303, 2, none⟩ = some (.slice none 0 0) := (blk_cell BK303.out 2).trans rfl
                          have hcz23_3 : wc.cell? ⟨gb303, 3, none⟩ = some (.int .i64 0) := (blk_cell BK303.out 3).trans rfl
                          have hfz23_0 := blk_frozen BK303.out 0
                          have hfz23_1 := blk_frozen BK303.out 1
                          have hfz23_2 := blk_frozen BK303.out 2
                          have hfz23_3 := blk_frozen BK303.out 3
                          go_wp2
                          refine bodyPost_ret (results_ct rfl _ _ gb303 69 #[.int .u32 0, .int .i64 0, .slice none 0 0, .int .i64 0] (0, 0) _ rfl (by (with_reducible repeat (first | refine blk_drewN ?_ _ | refine blk_drew ?_ | refine blk_alloc ?_ _)); refine blk_put (cs := #[.int .u32 0, .int .i64 0, .slice none 0 0, .int .i64 0]) ?_ 3 _ rfl; (with_reducible repeat (first | refine blk_drewN ?_ _ | refine blk_drew ?_ | refine blk_alloc ?_ _)); refine blk_put (cs := #[.int .u32 0, .int .i64 0, .slice none 0 0, .int .i64 0]) ?_ 2 _ rfl; (with_reducible repeat (first | refine blk_drewN ?_ _ | refine blk_drew ?_ | refine blk_alloc ?_ _)); refine blk_put (cs := #[.int .u32 0, .int .i64 0, .slice none 0 0, .int .i64 0]) ?_ 1 _ rfl; (with_reducible repeat (first | refine blk_drewN ?_ _ | refine blk_drew ?_ | refine blk_alloc ?_ _)); refine blk_put (cs := #[.int .u32 0, .int .i64 0, .slice none 0 0, .int .i64 0]) ?_ 0 _ rfl; (with_reducible repeat (first | refine blk_drewN ?_ _ | refine blk_drew ?_ | refine blk_alloc ?_ _)); exact BK303.out) Try.underlying69 rfl (by kernel_rfl)) rfl ?_
                          exact ⟨_, by first | rfl | (simp [errW_none, errW_some] <;> rfl) | (simp [*, errW_none, errW_some] <;> rfl), by first | exact Kd.R_nil _ _ _ _ _ | exact Kd.N_nil _ _ _ _ _ | exact Kd.V_nil _ _ _ _ _ | exact Kd.Q_nil _ _ _ _ _ | exact Kd.S_nil _ _ _ _ _, by repeat (first | (with_reducible first | exact HB.out | apply below_alloc | apply pw_below_drewN | apply below_drew1 | refine below_set ?_ GE303.out) | exact HB.out)⟩
                        · replace c22 := Bool.eq_false_iff.mpr c22
                          subst c22
                          have H1 : ((merkhetref06_All.f kj16 a0 14 (wrap64 (t308))).bind fun bt311 => (merkhetref07_Read.l0 kj16 bt311.1 0 ((t306) % 4294967296) (wrap64 (t308)) ([] : List ByteArray) 14)) = some (r1, r2, r3, r4, r5) := by rw [if_neg (show ¬ (false = true) by decide)] at H; exact H
                          clear H
                          have H := H1
                          clear H1
                          replace H := Option.bind_eq_some_iff.mp H
                          obtain ⟨⟨t311, t312⟩, A240, H⟩ := H
                          replace H : (merkhetref07_Read.l0 kj16 t311 0 ((t306) % 4294967296) (wrap64 (t308)) ([] : List ByteArray) 14) = some (r1, r2, r3, r4, r5) := H
                          have A24 := Aside0.mk A240
                          clear A240
                          have H' := Aside0.mk H
                          clear H
                          go_wp2_with (first | ((with_reducible refine gate_dst (N := 8) rfl ?_); refine box_event ?hg (N := 8) ?hd (cs := #[.int .u32 0, .int .i64 0, .slice none 0 0, .int .i64 0]) (t := 69) ?hr ?_; (case hd => rfl); (case hg => rfl); (case hr => first | (go_simp; done) | (go_simp; rfl)); intro gb310 hg w25 hbox hb; have n0_ := Aside0.mk (blk_below (g := gb303) (o := .cells #[.int .u32 0, .int .i64 0, .slice none 0 0, .int .i64 0] 69 (0, 0)) (by (with_reducible repeat (first | refine blk_drewN ?_ _ | refine blk_drew ?_ | refine blk_alloc ?_ _)); exact BK303.out) hb); have n1_ := Aside0.mk (below_step (by repeat (first | (with_reducible first | exact HB.out | apply below_alloc | apply pw_below_drewN | apply below_drew1 | refine below_set ?_ GE303.out) | exact HB.out)) hb); have n2_ := Aside0.mk (hbox); have n3_ := Aside0.mk ((by rw [hg]; exact (below_size (by repeat (first | (with_reducible first | exact HB.out | apply below_alloc | apply pw_below_drewN | apply below_drew1 | refine below_set ?_ GE303.out) | exact HB.out))) : w.heap.size ≤ gb310)); have n4_ := Aside0.mk ((by rw [hg]; exact (below_size (by repeat (first | (with_reducible first | exact HB.out | apply below_alloc | apply pw_below_drewN | apply below_drew1 | refine below_set ?_ GE303.out) | exact HB.out))) : w.heap.size ≤ gb310)); have n5_ := Aside0.mk ((by rw [hg]; exact Nat.ne_of_lt (blk_lt (g := gb303) (o := .cells #[.int .u32 0, .int .i64 0, .slice none 0 0, .int .i64 0] 69 (0, 0)) (by (with_reducible repeat (first | refine blk_drewN ?_ _ | refine blk_drew ?_ | refine blk_alloc ?_ _)); exact BK303.out)) : gb303 ≠ gb310)); have n6_ := Aside0.mk ((by rw [hg]; exact Nat.ne_of_gt (blk_lt (g := gb303) (o := .cells #[.int .u32 0, .int .i64 0, .slice none 0 0, .int .i64 0] 69 (0, 0)) (by (with_reducible repeat (first | refine blk_drewN ?_ _ | refine blk_drew ?_ | refine blk_alloc ?_ _)); exact BK303.out)) : gb310 ≠ gb303)); clear BK303; clear HB; have BK303 := n0_; have HB := n1_; have BK310 := n2_; have GW310 := n3_; have GE310 := n4_; have NB303_310 := n5_; have NB310_303 := n6_; clear n0_ n1_ n2_ n3_ n4_ n5_ n6_; clear hb hbox hg; have hnb26 := NB310_303.out; have hnc26 := NB303_310.out; have hcz27_0 : w25.cell? ⟨gb310, 0, none⟩ = some (.int .u32 0) := (blk_cell BK310.out 0).trans rfl; have hcz27_1 : w25.cell? ⟨gb310, 1, none⟩ = some (.int .i64 0) := (blk_cell BK310.out 1).trans rfl; have hcz27_2 : w25.cell? ⟨gb310, 2, none⟩ = some (.slice none 0 0) := (blk_cell BK310.out 2).trans rfl; have hcz27_3 : w25.cell? ⟨gb310, 3, none⟩ = some (.int .i64 0) := (blk_cell BK310.out 3).trans rfl; have hfz27_0 := blk_frozen BK310.out 0; have hfz27_1 := blk_frozen BK310.out 1; have hfz27_2 := blk_frozen BK310.out 2; have hfz27_3 := blk_frozen BK310.out 3) | ((with_reducible refine gate_callee (f := 25) rfl ?_); refine goesL_ (some 57) rfl rfl Try.func25 (by kernel_rfl) rfl #[.string a0, .int .i64 14, .int .i64 (wrap64 (t308))] rfl (by (try simp only [List.map_toArray, List.map_cons, List.map_nil]); first | done | rfl | (simp only [List.length_drop, List.length_take]; rfl) | (rw [Go.Proofs.Ytdpodjgggicaoaa.H.u64_id _ (by simp only [decide_eq_false_iff_not, decide_eq_true_eq, Nat.not_lt, Int.not_lt] at *; omega) (by simp only [decide_eq_false_iff_not, decide_eq_true_eq, Nat.not_lt, Int.not_lt] at *; omega)]; rfl)) ?_; (with_reducible refine (merkhetref06_All.calls kj16 a0 14 (wrap64 (t308)) t311 t312 _ A24.out).mono ?_); rintro e w28 ⟨v313, rfl, ho0, hb⟩; refine ⟨_, rfl, ?_⟩; have n0_ := Aside0.mk (Kd.R_lower ho0 (below_size (by repeat (first | (with_reducible first | exact HB.out | apply below_alloc | apply pw_below_drewN | apply below_drew1 | refine below_set ?_ GE303.out | refine below_set ?_ GE310.out) | exact HB.out)))); have n1_ := Aside0.mk (blk_below (g := gb303) (o := .cells #[.int .u32 0, .int .i64 0, .slice none 0 0, .int .i64 0] 69 (0, 0)) (by (with_reducible repeat (first | refine blk_drewN ?_ _ | refine blk_drew ?_ | refine blk_alloc ?_ _)); refine blk_far ?_ NB303_310.out _; (with_reducible repeat (first | refine blk_drewN ?_ _ | refine blk_drew ?_ | refine blk_alloc ?_ _)); refine blk_far ?_ NB303_310.out _; (with_reducible repeat (first | refine blk_drewN ?_ _ | refine blk_drew ?_ | refine blk_alloc ?_ _)); refine blk_far ?_ NB303_310.out _; (with_reducible repeat (first | refine blk_drewN ?_ _ | refine blk_drew ?_ | refine blk_alloc ?_ _)); refine blk_far ?_ NB303_310.out _; (with_reducible repeat (first | refine blk_drewN ?_ _ | refine blk_drew ?_ | refine blk_alloc ?_ _)); exact BK303.out) hb); have n2_ := Aside0.mk (blk_below (g := gb310) (o := .cells #[.int .u32 ((t306) % 4294967296), .int .i64 (wrap64 (t308)), .slice none 0 0, .int .i64 14] 69 (0, 0)) (by (with_reducible repeat (first | refine blk_drewN ?_ _ | refine blk_drew ?_ | refine blk_alloc ?_ _)); refine blk_put (cs := #[.int .u32 ((t306) % 4294967296), .int .i64 (wrap64 (t308)), .slice none 0 0, .int .i64 0]) ?_ 3 _ rfl; (with_reducible repeat (first | refine blk_drewN ?_ _ | refine blk_drew ?_ | refine blk_alloc ?_ _)); refine blk_put (cs := #[.int .u32 ((t306) % 4294967296), .int .i64 (wrap64 (t308)), .slice none 0 0, .int .i64 0]) ?_ 2 _ rfl; (with_reducible repeat (first | refine blk_drewN ?_ _ | refine blk_drew ?_ | refine blk_alloc ?_ _)); refine blk_put (cs := #[.int .u32 ((t306) % 4294967296), .int .i64 0, .slice none 0 0, .int .i64 0]) ?_ 1 _ rfl; (with_reducible repeat (first | refine blk_drewN ?_ _ | refine blk_drew ?_ | refine blk_alloc ?_ _)); refine blk_put (cs := #[.int .u32 0, .int .i64 0, .slice none 0 0, .int .i64 0]) ?_ 0 _ rfl; (with_reducible repeat (first | refine blk_drewN ?_ _ | refine blk_drew ?_ | refine blk_alloc ?_ _)); exact BK310.out) hb); have n3_ := Aside0.mk (below_step (by repeat (first | (with_reducible first | exact HB.out | apply below_alloc | apply pw_below_drewN | apply below_drew1 | refine below_set ?_ GE303.out | refine below_set ?_ GE310.out) | exact HB.out)) hb); clear BK303; clear BK310; clear HB; have HO314 := n0_; have BK303 := n1_; have BK310 := n2_; have HB := n3_; clear n0_ n1_ n2_ n3_; (try clear hb); (try clear hb2); (try clear hk); (try clear hi); (try clear ho0)))
                          go_loopg [11] kj16 (fun kq v11 w' => ∃ (x11_2 : Int) (x304000_2 : Int) (x304001_2 : Int) (x304003_2 : Int) (x311002_2 : List ByteArray) (x311003_2 : Int) (u311002 : Value), v11 = .int .i64 x11_2 ∧ Aside0 (merkhetref07_Read.l0 kq t311 x11_2 ((t306) % 4294967296) (wrap64 (t308)) x311002_2 x311003_2 = some (r1, r2, r3, r4, r5)) ∧ Aside0 (kq ≤ kj16) ∧ Aside0 (Kd.R Kd.string 9 w' w.heap.size (fun k_ => some k_ ≠ (u311002 : Value).ownBlock) v313 t311) ∧ Aside0 (Kd.R Kd.string 9 w' w.heap.size (fun k_ => some k_ ≠ (v313 : Value).ownBlock) u311002 x311002_2) ∧ Aside0 (w'.heap[gb303]? = some (.cells #[.int .u32 x304000_2, .int .i64 x304001_2, (.slice none 0 0), .int .i64 x304003_2] 69 (0, 0))) ∧ Aside0 (w'.heap[gb310]? = some (.cells #[.int .u32 ((t306) % 4294967296), .int .i64 (wrap64 (t308)), u311002, .int .i64 x311003_2] 69 (0, 0))) ∧ Aside0 (Below w.heap.size w w'))
                          case atStart => exact ⟨(0), (0), (0), (0), (([] : List ByteArray)), (14), (.slice none 0 0), (by first | rfl | (simp; done) | (simp [*]; done)), H', ⟨Nat.le_refl _⟩, ⟨by (with_reducible repeat (first | apply Kd.R_alloc | apply Kd.R_drewN | apply Kd.R_drew)); exact Kd.R_mono HO314.out (fun _ hk => (by simp [Value.ownBlock]))⟩, ⟨by first | exact Kd.R_nil _ _ _ _ _ | exact Kd.N_nil _ _ _ _ _ | exact Kd.V_nil _ _ _ _ _ | exact Kd.Q_nil _ _ _ _ _ | exact Kd.S_nil _ _ _ _ _⟩, ⟨by (with_reducible repeat (first | refine blk_drewN ?_ _ | refine blk_drew ?_ | refine blk_alloc ?_ _)); exact BK303.out⟩, ⟨by (with_reducible repeat (first | refine blk_drewN ?_ _ | refine blk_drew ?_ | refine blk_alloc ?_ _)); exact BK310.out⟩, ⟨by repeat (first | (with_reducible first | exact HB.out | apply below_alloc | apply pw_below_drewN | apply below_drew1 | refine below_set ?_ GE303.out | refine below_set ?_ GE310.out) | exact HB.out)⟩⟩
                          case round =>
                            clear H'
                            try clear c1
                            try clear c2
                            try clear c2b0
                            try clear c2b1
                            try clear p2
                            try clear c3
                            try clear c4
                            try clear c5
                            try clear c5b0
                            try clear c5b1
                            try clear c6
                            try clear c6b0
                            try clear c6b1
                            try clear p6
                            try clear c7
                            try clear c7b0
                            try clear c7b1
                            try clear c8
                            try clear c8b0
                            try clear c8b1
                            try clear c9
                            try clear c9b0
                            try clear c9b1
                            try clear c12
                            try clear c12b0
                            try clear c12b1
                            try clear c13
                            try clear c13b0
                            try clear c13b1
                            try clear c14
                            try clear c14b0
                            try clear c14b1
                            try clear c21
                            try clear c21b0
                            try clear c22
                            try clear c25
                            try clear c26
                            try clear hcz23_0
                            try clear hcz23_1
                            try clear hcz23_2
                            try clear hcz23_3
                            try clear hcz27_0
                            try clear hcz27_1
                            try clear hcz27_2
                            try clear hcz27_3
                            try clear hcz4_0
                            try clear hcz4_1
                            try clear hcz4_2
                            try clear hcz4_3
                            try clear hfz23_0
                            try clear hfz23_1
                            try clear hfz23_2
                            try clear hfz23_3
                            try clear hfz27_0
                            try clear hfz27_1
                            try clear hfz27_2
                            try clear hfz27_3
                            try clear hfz4_0
                            try clear hfz4_1
                            try clear hfz4_2
                            try clear hfz4_3
                            try clear p2
                            obtain ⟨x11_2, x304000_2, x304001_2, x304003_2, x311002_2, x311003_2, u311002, rfl, HA, HK2, HO_9, HO_311002, BK303, BK310, HB⟩ := hrel
                            cases gk with
                            | zero => exact absurd HA.out (by simp [merkhetref07_Read.l0])
                            | succ k2 =>
                              have H := HA.out
                              clear HA
                              simp only [merkhetref07_Read.l0] at H
                              by_cases c29 : x11_2 < (t311.length : Int)
                              · rw [if_pos c29] at H
                                have c29b0 : decide (x11_2 < (t311.length : Int)) = true := decide_eq_true c29
                                clear c29
                                by_cases c30 : 0 ≤ x11_2
                                · rw [if_pos c30] at H
                                  have c30b0 : decide (0 ≤ x11_2) = true := decide_eq_true c30
                                  clear c30
                                  replace H := Option.bind_eq_some_iff.mp H
                                  obtain ⟨⟨t316, t317⟩, A310, H⟩ := H
                                  replace H : (if t317 = 0 then (if x311002_2.length < 8796093022208 then (merkhetref07_Read.l0 k2 t311 (wrap64 (x11_2 + 1)) ((t306) % 4294967296) (wrap64 (t308)) (x311002_2 ++ [rdOf ByteArray.empty t311 x11_2]) (wrap64 ((wrap64 (x311003_2 + 6)) + ((rdOf ByteArray.empty t311 x11_2).size : Int)))) else (none)) else (some (((t306) % 4294967296), (wrap64 (t308)), x311002_2, x311003_2, 0))) = some (r1, r2, r3, r4, r5) := H
                                  have A31 := Aside0.mk A310
                                  clear A310
                                  by_cases c32 : t317 = 0
                                  · rw [if_pos c32] at H
                                    have c32b0 : (t317 == 0) = true := beq_iff_eq.mpr c32
                                    have c32b1 : (t317 != 0) = false := bne_eq_false_iff_eq.mpr c32
                                    clear c32
                                    by_cases c33 : x311002_2.length < 8796093022208
                                    · rw [if_pos c33] at H
                                      have LMc33 := Aside0.mk c33
                                      clear c33
                                      obtain ⟨y321, hy321⟩ : ∃ y_ : List ByteArray, y_ = (x311002_2 ++ [rdOf ByteArray.empty t311 x11_2]) := ⟨_, rfl⟩
                                      replace H : (merkhetref07_Read.l0 k2 t311 (wrap64 (x11_2 + 1)) ((t306) % 4294967296) (wrap64 (t308)) y321 (wrap64 ((wrap64 (x311003_2 + 6)) + ((rdOf ByteArray.empty t311 x11_2).size : Int)))) = some (r1, r2, r3, r4, r5) := by first | (rw [hy321]; with_reducible exact H) | (have H2_ := (Option.bind_some _ _).symm.trans H; rw [hy321]; with_reducible exact H2_) | (have H2_ := (Option.bind_some _ _).symm.trans H; with_reducible exact H2_) | with_reducible exact H | (rw [hy321]; exact H) | exact H
                                      have Ny321 := Aside0.mk hy321
                                      clear hy321
                                      have H' := Aside0.mk H
                                      clear H
                                      obtain ⟨Ao34, co34, eo34⟩ := Kd.R_slice HO_9.out
                                      subst eo34
                                      have p315 : 0 ≤ (x11_2 : Int) := of_decide_eq_true (by first | (with_reducible assumption) | assumption)
                                      have q315 : x11_2 < (t311.length : Int) := of_decide_eq_true (by first | (with_reducible assumption) | assumption)
                                      obtain ⟨ad315, e315, hx315_0⟩ := Kd.at_string (Kd.R_reads' HO_9.out).2.2 x11_2 p315 q315
                                      cases e315
                                      replace p315 := eq_true p315
                                      replace q315 := eq_true q315
                                      try go_wp2_with (first | ((with_reducible refine gate_callee (f := 30) rfl ?_); refine goesL_ (some 71) rfl rfl Try.func30 (by kernel_rfl) rfl #[.string (rdOf ByteArray.empty t311 x11_2)] rfl (by (try simp only [List.map_toArray, List.map_cons, List.map_nil]); first | done | rfl | (simp only [List.length_drop, List.length_take]; rfl) | (rw [Go.Proofs.Ytdpodjgggicaoaa.H.u64_id _ (by simp only [decide_eq_false_iff_not, decide_eq_true_eq, Nat.not_lt, Int.not_lt] at *; omega) (by simp only [decide_eq_false_iff_not, decide_eq_true_eq, Nat.not_lt, Int.not_lt] at *; omega)]; rfl)) ?_; (with_reducible refine (merkhetref04_Get.calls k2 (rdOf ByteArray.empty t311 x11_2) t316 t317 _ A31.out).mono ?_); rintro e w35 ⟨v318, rfl, ho0, hb⟩; refine ⟨_, rfl, ?_⟩; have n0_ := Aside0.mk (Kd.R_below (by (with_reducible repeat (first | apply Kd.R_alloc | apply Kd.R_drewN | apply Kd.R_drew)); exact HO_9.out) hb); have n1_ := Aside0.mk (Kd.R_below (by (with_reducible repeat (first | apply Kd.R_alloc | apply Kd.R_drewN | apply Kd.R_drew)); exact HO_311002.out) hb); have n2_ := Aside0.mk (Kd.R_lower ho0 (below_size (by repeat (first | (with_reducible first | exact HB.out | apply below_alloc | apply pw_below_drewN | apply below_drew1 | refine below_set ?_ GE303.out | refine below_set ?_ GE310.out) | exact HB.out)))); have n3_ := Aside0.mk (blk_below (g := gb303) (o := .cells #[.int .u32 x304000_2, .int .i64 x304001_2, .slice none 0 0, .int .i64 x304003_2] 69 (0, 0)) (by (with_reducible repeat (first | refine blk_drewN ?_ _ | refine blk_drew ?_ | refine blk_alloc ?_ _)); exact BK303.out) hb); have n4_ := Aside0.mk (blk_below (g := gb310) (o := .cells #[.int .u32 ((t306) % 4294967296), .int .i64 (wrap64 (t308)), u311002, .int .i64 x311003_2] 69 (0, 0)) (by (with_reducible repeat (first | refine blk_drewN ?_ _ | refine blk_drew ?_ | refine blk_alloc ?_ _)); exact BK310.out) hb); have n5_ := Aside0.mk (below_step (by repeat (first | (with_reducible first | exact HB.out | apply below_alloc | apply pw_below_drewN | apply below_drew1 | refine below_set ?_ GE303.out | refine below_set ?_ GE310.out) | exact HB.out)) hb); clear HO_9; clear HO_311002; clear BK303; clear BK310; clear HB; have HO_9 := n0_; have HO_311002 := n1_; have HO319 := n2_; have BK303 := n3_; have BK310 := n4_; have HB := n5_; clear n0_ n1_ n2_ n3_ n4_ n5_; (try clear hb); (try clear hb2); (try clear hk); (try clear hi); (try clear ho0)))
                                      (try (rw [drewN_self w35]; generalize hq_ : World.drewN w35 _ = w35; have n0_ : Aside0 (Kd.R k77 77 w35 w.heap.size (fun _ => True) v318 t316) := ⟨by rw [← hq_]; exact (by (with_reducible repeat (first | apply Kd.R_alloc | apply Kd.R_drewN | apply Kd.R_drew)); exact HO319.out)⟩; have n1_ : Aside0 (Kd.R Kd.string 9 w35 w.heap.size (fun k_ => some k_ ≠ (.slice (some ad315) t311.length co34 : Value).ownBlock) u311002 x311002_2) := ⟨by rw [← hq_]; exact (by (with_reducible repeat (first | apply Kd.R_alloc | apply Kd.R_drewN | apply Kd.R_drew)); exact HO_311002.out)⟩; have n2_ : Aside0 (Kd.R Kd.string 9 w35 w.heap.size (fun k_ => some k_ ≠ (u311002 : Value).ownBlock) (.slice (some ad315) t311.length co34) t311) := ⟨by rw [← hq_]; exact (by (with_reducible repeat (first | apply Kd.R_alloc | apply Kd.R_drewN | apply Kd.R_drew)); exact HO_9.out)⟩; have n3_ : Aside0 (w35.heap[gb303]? = some (.cells #[.int .u32 x304000_2, .int .i64 x304001_2, .slice none 0 0, .int .i64 x304003_2] 69 (0, 0))) := ⟨by rw [← hq_]; exact (by (with_reducible repeat (first | refine blk_drewN ?_ _ | refine blk_drew ?_ | refine blk_alloc ?_ _)); exact BK303.out)⟩; have n4_ : Aside0 (w35.heap[gb310]? = some (.cells #[.int .u32 ((t306) % 4294967296), .int .i64 (wrap64 (t308)), u311002, .int .i64 x311003_2] 69 (0, 0))) := ⟨by rw [← hq_]; exact (by (with_reducible repeat (first | refine blk_drewN ?_ _ | refine blk_drew ?_ | refine blk_alloc ?_ _)); exact BK310.out)⟩; have n5_ : Aside0 (Below w.heap.size w w35) := ⟨by rw [← hq_]; exact (by repeat (first | (with_reducible first | exact HB.out | apply below_alloc | apply pw_below_drewN | apply below_drew1 | refine below_set ?_ GE303.out | refine below_set ?_ GE310.out) | exact HB.out))⟩; clear HO319 HO_311002 HO_9 BK303 BK310 HB hq_; have HO319 := n0_; have HO_311002 := n1_; have HO_9 := n2_; have BK303 := n3_; have BK310 := n4_; have HB := n5_; clear n0_ n1_ n2_ n3_ n4_ n5_))
                                      have n0_ := Aside0.mk (Kd.R_drew HO_9.out)
                                      have n1_ := Aside0.mk (Kd.R_drew HO_311002.out)
                                      have n2_ := Aside0.mk (Kd.R_drew HO319.out)
                                      have n3_ := Aside0.mk (blk_drew BK303.out)
                                      have n4_ := Aside0.mk (blk_drew BK310.out)
                                      have n5_ := Aside0.mk (below_drew1 HB.out)
                                      clear HO_9
                                      clear HO_311002
                                      clear HO319
                                      clear BK303
                                      clear BK310
                                      clear HB
                                      have HO_9 := n0_
                                      have HO_311002 := n1_
                                      have HO319 := n2_
                                      have BK303 := n3_
                                      have BK310 := n4_
                                      have HB := n5_
                                      clear n0_ n1_ n2_ n3_ n4_ n5_
                                      have p320 : 0 ≤ (x11_2 : Int) := of_decide_eq_true (by first | (with_reducible assumption) | assumption)
                                      have q320 : x11_2 < (t311.length : Int) := of_decide_eq_true (by first | (with_reducible assumption) | assumption)
                                      obtain ⟨ad320, e320, hx320_0⟩ := Kd.at_string (Kd.R_reads' HO_9.out).2.2 x11_2 p320 q320
                                      obtain rfl : ad315 = ad320 := (by injection e320)
                                      replace p320 := eq_true p320
                                      replace q320 := eq_true q320
                                      refine start_ (n := 10) (S := fun w' => w'.cell? ⟨gb310, 0, none⟩ = some (.int .u32 ((t306) % 4294967296)) ∧ w'.cell? ⟨gb310, 1, none⟩ = some (.int .i64 (wrap64 (t308))) ∧ w'.cell? ⟨gb310, 2, none⟩ = some (u311002) ∧ w'.cell? ⟨gb310, 3, none⟩ = some (.int .i64 x311003_2) ∧ w'.cell? (ad315.add (x11_2).toNat) = some (.string (rdOf ByteArray.empty t311 x11_2))) (ds := [7, 9]) #[false, false, false, false, false, false, false, false, false, false] (by kernel_rfl) rfl rfl ⟨(blk_cell BK310.out 0).trans rfl, (blk_cell BK310.out 1).trans rfl, (blk_cell BK310.out 2).trans rfl, (blk_cell BK310.out 3).trans rfl, hx320_0⟩ (fun hHeld => ?_); refine with_tabW merkhetref07_Read.tab19 merkhetref07_Read.bits19 (fun HT_ HW_ => ?_)
                                      generalize w35.drew = w36 at HO_9 HO_311002 HO319 BK303 BK310 HB hx320_0 hHeld ⊢
                                      refine pure_ (i := 0) (N := some 77) (v := ?_) (a' := ?_) #[true, false, false, false, false, false, false, false, false, false] rfl rfl (any_of HT_.out (by kernel_rfl)) (fun _ _ _ h => h) (Or.inl ⟨by rfl, ?_⟩) ?_ ?_
                                      rotate_left
                                      · intro w'
                                        go_simp
                                        with_reducible rfl
                                      rotate_left
                                      · simp only [Act.put, List.setIfInBounds_toArray, List.set_cons_zero, List.set_cons_succ, i64_w, i32_w]
                                        rfl
                                      refine pure_ (i := 2) (N := some 79) (v := ?_) (a' := ?_) #[true, false, true, false, false, false, false, false, false, false] rfl rfl (any_of HT_.out (by kernel_rfl)) (fun _ _ _ h => h) (Or.inl ⟨by rfl, ?_⟩) ?_ ?_
                                      rotate_left
                                      · intro w'
                                        go_simp
                                        with_reducible rfl
                                      rotate_left
                                      · simp only [Act.put, List.setIfInBounds_toArray, List.set_cons_zero, List.set_cons_succ, i64_w, i32_w]
                                        rfl
                                      refine pure_ (i := 3) (N := some 80) (v := ?_) (a' := ?_) #[true, false, true, true, false, false, false, false, false, false] rfl rfl (any_of HT_.out (by kernel_rfl)) (fun _ _ _ h => h) (Or.inl ⟨by rfl, ?_⟩) ?_ ?_
                                      rotate_left
                                      · intro w'
                                        go_simp
                                        with_reducible rfl
                                      rotate_left
                                      · simp only [Act.put, List.setIfInBounds_toArray, List.set_cons_zero, List.set_cons_succ, i64_w, i32_w]
                                        rfl
                                      refine pure_ (i := 4) (N := some 81) (v := ?_) (a' := ?_) #[true, false, true, true, true, false, false, false, false, false] rfl rfl (any_of HT_.out (by kernel_rfl)) (fun _ _ _ h => h) (Or.inl ⟨by rfl, ?_⟩) ?_ ?_
                                      rotate_left
                                      · intro w'
                                        go_simp
                                        with_reducible rfl
                                      rotate_left
                                      · simp only [Act.put, List.setIfInBounds_toArray, List.set_cons_zero, List.set_cons_succ, i64_w, i32_w]
                                        rfl
                                      refine take_ (i := 1) (N := some 78) (v := ?_) (a' := ?_) #[true, true, true, true, true, false, false, false, false, false] rfl rfl (take_ofW HT_.out HW_.out (by kernel_rfl)) (fun _ _ _ h => h) (Or.inl ⟨by rfl, ?_⟩) hHeld ?_ ?_
                                      rotate_left
                                      · rintro w' ⟨s0, s1, s2, s3, s4⟩
                                        go_simp
                                        with_reducible rfl
                                      rotate_left
                                      · simp only [Act.put, List.setIfInBounds_toArray, List.set_cons_zero, List.set_cons_succ, i64_w, i32_w]
                                        rfl
                                      refine take_ (i := 5) (N := some 82) (v := ?_) (a' := ?_) #[true, true, true, true, true, true, false, false, false, false] rfl rfl (take_ofW HT_.out HW_.out (by kernel_rfl)) (fun _ _ _ h => h) (Or.inl ⟨by rfl, ?_⟩) hHeld ?_ ?_
                                      rotate_left
                                      · rintro w' ⟨s0, s1, s2, s3, s4⟩
                                        go_simp
                                        with_reducible rfl
                                      rotate_left
                                      · simp only [Act.put, List.setIfInBounds_toArray, List.set_cons_zero, List.set_cons_succ, i64_w, i32_w]
                                        rfl
                                      refine one_ (i := 6) (N := some 83) #[true, true, true, true, true, true, true, false, false, false] rfl rfl (one_of HT_.out (by kernel_rfl)) (by decide) (fun K hK => ?_)
                                      refine value_ (w1 := ?_) (v := ?_) (by rfl) rfl ?_ ?_
                                      rotate_left 2
                                      · go_simp
                                        constructor
                                        · rfl
                                        · rfl
                                      refine hK.out _ _ ⟨(blk_cell (blk_alloc BK310.out _) 0).trans rfl, (blk_cell (blk_alloc BK310.out _) 1).trans rfl, (blk_cell (blk_alloc BK310.out _) 2).trans rfl, (blk_cell (blk_alloc BK310.out _) 3).trans rfl, (World.cell?_alloc_lt _ _ _ (World.block_lt_of_cell? _ _ (hHeld.2.2.2.2))).trans (hHeld.2.2.2.2)⟩ (fun hHeld => ?_)
                                      clear hK K
                                      refine norm_ (a' := ?_) ?_ ?_
                                      rotate_left
                                      · show Act.put _ (some 83) _ = _
                                        simp only [Act.put, List.setIfInBounds_toArray, List.set_cons_zero, List.set_cons_succ, i64_w, i32_w]
                                        rfl
                                      refine last_ (i := 7) (N := some 84) #[true, true, true, true, true, true, true, true, false, false] rfl rfl (one_of HT_.out (by kernel_rfl)) (by decide) (fun K hK => ?_)
                                      refine Kd.R_append_step Kd.string (w0 := w) w.heap.size (by rfl) (.tmp 78) (.tmp 83) 45 9 (.string ⟨#[]⟩) 16 rfl Try.underlying45 info9 rfl (by decide) (by omega) u311002 x311002_2 (rdOf ByteArray.empty t311 x11_2) [.string (rdOf ByteArray.empty t311 x11_2)] (fun k_ => some k_ ≠ (.slice (some ad315) t311.length co34 : Value).ownBlock) (fun _ => False) rfl rfl ?aP (fun _ hk => hk.elim) ?aF ?aO ?aB ?aS ?aL ?_
                                      (case aP => exact rfl)
                                      (case aB => exact (by repeat (first | (with_reducible first | exact HB.out | apply below_alloc | apply pw_below_drewN | apply below_drew1 | refine below_set ?_ GE303.out | refine below_set ?_ GE310.out) | exact HB.out)))
                                      (case aF => exact (fun k_ hk => Kd.fresh' (Kd.R_lt (by (with_reducible repeat (first | apply Kd.R_alloc | apply Kd.R_drewN | apply Kd.R_drew)); exact HO_9.out)) k_ hk))
                                      (case aO => exact (by (with_reducible repeat (first | apply Kd.R_alloc | apply Kd.R_drewN | apply Kd.R_drew)); exact HO_311002.out))
                                      (case aS => exact (below_size (by repeat (first | (with_reducible first | exact HB.out | apply below_alloc | apply pw_below_drewN | apply below_drew1 | refine below_set ?_ GE303.out | refine below_set ?_ GE310.out) | exact HB.out))))
                                      (case aL => have := LMc33.out; omega)
                                      intro v322 w37 ho hb hg hat
                                      rw [← Ny321.out] at ho
                                      have n0_ := Aside0.mk (Kd.R_after (ok := (fun _ => True)) (by (with_reducible repeat (first | apply Kd.R_alloc | apply Kd.R_drewN | apply Kd.R_drew)); exact Kd.R_mono HO_9.out (fun _ hk => ⟨trivial, hk⟩)) hg hat)
                                      have n1_ := Aside0.mk (blk_grown (g := gb303) (o := .cells #[.int .u32 x304000_2, .int .i64 x304001_2, .slice none 0 0, .int .i64 x304003_2] 69 (0, 0)) (by (with_reducible repeat (first | refine blk_drewN ?_ _ | refine blk_drew ?_ | refine blk_alloc ?_ _)); exact BK303.out) hg (Kd.R_ne HO_311002.out BK303.out (by decide)))
                                      have n2_ := Aside0.mk (blk_grown (g := gb310) (o := .cells #[.int .u32 ((t306) % 4294967296), .int .i64 (wrap64 (t308)), u311002, .int .i64 x311003_2] 69 (0, 0)) (by (with_reducible repeat (first | refine blk_drewN ?_ _ | refine blk_drew ?_ | refine blk_alloc ?_ _)); exact BK310.out) hg (Kd.R_ne HO_311002.out BK310.out (by decide)))
                                      have n3_ := Aside0.mk (Kd.R_over' (by (with_reducible repeat (first | apply Kd.R_alloc | apply Kd.R_drewN | apply Kd.R_drew)); exact HO319.out) (Kd.R_typed (by (with_reducible repeat (first | apply Kd.R_alloc | apply Kd.R_drewN | apply Kd.R_drew)); exact HO_311002.out)) (by decide) hg)
                                      have n4_ := Aside0.mk (hb)
                                      have n5_ := Aside0.mk (ho)
                                      clear HO_9
                                      clear BK303
                                      clear BK310
                                      clear HO319
                                      clear HB
                                      clear HO_311002
                                      have HO_9 := n0_
                                      have BK303 := n1_
                                      have BK310 := n2_
                                      have HO319 := n3_
                                      have HB := n4_
                                      have HO323 := n5_
                                      clear n0_ n1_ n2_ n3_ n4_ n5_
                                      clear ho hb hg hat
                                      obtain ⟨Ao38, co38, eo38⟩ := Kd.R_slice HO323.out
                                      (first | subst eo38 | (injection eo38 with f1_ f2_ f3_; have f4_ := f1_.symm; have f5_ := f3_.symm; clear f1_ f2_ f3_; subst f4_; subst f5_))
                                      refine hK.out _ _ ?_
                                      clear hK K
                                      refine norm_ (a' := ?_) ?_ ?_
                                      rotate_left
                                      · show Act.put _ (some 84) _ = _
                                        simp only [Act.put, List.setIfInBounds_toArray, List.set_cons_zero, List.set_cons_succ, i64_w, i32_w]
                                        rfl
                                      refine pure_ (i := 8) (N := some 85) (v := ?_) (a' := ?_) #[true, true, true, true, true, true, true, true, true, false] rfl rfl (any_of HT_.out (by kernel_rfl)) (fun _ _ _ h => h) (Or.inl ⟨by rfl, ?_⟩) ?_ ?_
                                      rotate_left
                                      · intro w'
                                        go_simp
                                        with_reducible rfl
                                      rotate_left
                                      · simp only [Act.put, List.setIfInBounds_toArray, List.set_cons_zero, List.set_cons_succ, i64_w, i32_w]
                                        rfl
                                      refine last_ (i := 9) (N := none) #[true, true, true, true, true, true, true, true, true, true] rfl rfl (one_of HT_.out (by kernel_rfl)) (by decide) (fun K hK => ?_)
                                      have hs39 : w37.cell? ⟨gb310, 2, none⟩ = some (u311002) := (blk_cell BK310.out 2).trans rfl
                                      have hfs39 := blk_frozen BK310.out 2
                                      have hns39_0 := NB303_310.out
                                      have hms39_0 := NB310_303.out
                                      refine skip_ (w1 := ?_) (by rfl) rfl ?_ ?_
                                      rotate_left
                                      · go_simp
                                        rfl
                                      refine hK.out _ _ ?_
                                      clear hK K
                                      refine done_ (done_of HT_.out (by kernel_rfl)) ?_
                                      try go_wp2
                                      have n0_ : Aside0 (Kd.R Kd.string 9 (w37.setCell ⟨gb310, 2, none⟩ (.slice Ao38 y321.length co38)) w.heap.size (fun k_ => some k_ ≠ (.slice Ao38 y321.length co38 : Value).ownBlock) (.slice (some ad315) t311.length co34) t311) := ⟨by (with_reducible repeat (first | apply Kd.R_alloc | apply Kd.R_drewN | apply Kd.R_drew)); exact Kd.R_mono (Kd.R_far (p := ⟨gb310, 2, none⟩) (Kd.R_types HO_9.out BK310.out (by decide)) (fun _ hk => hk.2) (.slice Ao38 y321.length co38)) (fun _ hk => hk.1.2)⟩
                                      have n1_ : Aside0 (Kd.R k77 77 (w37.setCell ⟨gb310, 2, none⟩ (.slice Ao38 y321.length co38)) w.heap.size (fun _ => True) v318 t316) := ⟨by (with_reducible repeat (first | apply Kd.R_alloc | apply Kd.R_drewN | apply Kd.R_drew)); exact Kd.R_mono (Kd.R_far (p := ⟨gb310, 2, none⟩) (Kd.R_types HO319.out BK310.out (by decide)) (fun _ hk => hk.2) (.slice Ao38 y321.length co38)) (fun _ hk => trivial)⟩
                                      have n2_ : Aside0 (Kd.R Kd.string 9 (w37.setCell ⟨gb310, 2, none⟩ (.slice Ao38 y321.length co38)) w.heap.size (fun k_ => some k_ ≠ (.slice (some ad315) t311.length co34 : Value).ownBlock) (.slice Ao38 y321.length co38) y321) := ⟨by (with_reducible repeat (first | apply Kd.R_alloc | apply Kd.R_drewN | apply Kd.R_drew)); exact Kd.R_mono (Kd.R_far (p := ⟨gb310, 2, none⟩) (Kd.R_types HO323.out BK310.out (by decide)) (fun _ hk => hk.2) (.slice Ao38 y321.length co38)) (fun _ hk => hk.1)⟩
                                      have n3_ : Aside0 ((w37.setCell ⟨gb310, 2, none⟩ (.slice Ao38 y321.length co38)).heap[gb303]? = some (.cells #[.int .u32 x304000_2, .int .i64 x304001_2, .slice none 0 0, .int .i64 x304003_2] 69 (0, 0))) := ⟨by (with_reducible repeat (first | refine blk_drewN ?_ _ | refine blk_drew ?_ | refine blk_alloc ?_ _)); refine blk_far ?_ NB303_310.out _; (with_reducible repeat (first | refine blk_drewN ?_ _ | refine blk_drew ?_ | refine blk_alloc ?_ _)); exact BK303.out⟩
                                      have n4_ : Aside0 ((w37.setCell ⟨gb310, 2, none⟩ (.slice Ao38 y321.length co38)).heap[gb310]? = some (.cells #[.int .u32 ((t306) % 4294967296), .int .i64 (wrap64 (t308)), .slice Ao38 y321.length co38, .int .i64 x311003_2] 69 (0, 0))) := ⟨by (with_reducible repeat (first | refine blk_drewN ?_ _ | refine blk_drew ?_ | refine blk_alloc ?_ _)); refine blk_put (cs := #[.int .u32 ((t306) % 4294967296), .int .i64 (wrap64 (t308)), u311002, .int .i64 x311003_2]) ?_ 2 _ rfl; (with_reducible repeat (first | refine blk_drewN ?_ _ | refine blk_drew ?_ | refine blk_alloc ?_ _)); exact BK310.out⟩
                                      have n5_ : Aside0 (Below w.heap.size w (w37.setCell ⟨gb310, 2, none⟩ (.slice Ao38 y321.length co38))) := ⟨by repeat (first | (with_reducible first | exact HB.out | apply below_alloc | apply pw_below_drewN | apply below_drew1 | refine below_set ?_ GE303.out | refine below_set ?_ GE310.out) | exact HB.out)⟩
                                      (try clear HO_9)
                                      (try clear HO319)
                                      (try clear HO323)
                                      (try clear BK303)
                                      (try clear BK310)
                                      (try clear HB)
                                      generalize (w37.setCell ⟨gb310, 2, none⟩ (.slice Ao38 y321.length co38)) = w40 at n0_ n1_ n2_ n3_ n4_ n5_ ⊢
                                      have HO_9 := n0_
                                      have HO319 := n1_
                                      have HO323 := n2_
                                      have BK303 := n3_
                                      have BK310 := n4_
                                      have HB := n5_
                                      clear n0_ n1_ n2_ n3_ n4_ n5_
                                      (try (rw [drewN_self w40]; generalize hq_ : World.drewN w40 _ = w40; have n0_ : Aside0 (Kd.R k77 77 w40 w.heap.size (fun _ => True) v318 t316) := ⟨by rw [← hq_]; exact (by (with_reducible repeat (first | apply Kd.R_alloc | apply Kd.R_drewN | apply Kd.R_drew)); exact HO319.out)⟩; have n1_ : Aside0 (Kd.R Kd.string 9 w40 w.heap.size (fun k_ => some k_ ≠ (.slice (some ad315) t311.length co34 : Value).ownBlock) (.slice Ao38 y321.length co38) y321) := ⟨by rw [← hq_]; exact (by (with_reducible repeat (first | apply Kd.R_alloc | apply Kd.R_drewN | apply Kd.R_drew)); exact HO323.out)⟩; have n2_ : Aside0 (Kd.R Kd.string 9 w40 w.heap.size (fun k_ => some k_ ≠ (.slice Ao38 y321.length co38 : Value).ownBlock) (.slice (some ad315) t311.length co34) t311) := ⟨by rw [← hq_]; exact (by (with_reducible repeat (first | apply Kd.R_alloc | apply Kd.R_drewN | apply Kd.R_drew)); exact HO_9.out)⟩; have n3_ : Aside0 (w40.heap[gb303]? = some (.cells #[.int .u32 x304000_2, .int .i64 x304001_2, .slice none 0 0, .int .i64 x304003_2] 69 (0, 0))) := ⟨by rw [← hq_]; exact (by (with_reducible repeat (first | refine blk_drewN ?_ _ | refine blk_drew ?_ | refine blk_alloc ?_ _)); exact BK303.out)⟩; have n4_ : Aside0 (w40.heap[gb310]? = some (.cells #[.int .u32 ((t306) % 4294967296), .int .i64 (wrap64 (t308)), .slice Ao38 y321.length co38, .int .i64 x311003_2] 69 (0, 0))) := ⟨by rw [← hq_]; exact (by (with_reducible repeat (first | refine blk_drewN ?_ _ | refine blk_drew ?_ | refine blk_alloc ?_ _)); exact BK310.out)⟩; have n5_ : Aside0 (Below w.heap.size w w40) := ⟨by rw [← hq_]; exact (by repeat (first | (with_reducible first | exact HB.out | apply below_alloc | apply pw_below_drewN | apply below_drew1 | refine below_set ?_ GE303.out | refine below_set ?_ GE310.out) | exact HB.out))⟩; clear HO319 HO323 HO_9 BK303 BK310 HB hq_; have HO319 := n0_; have HO323 := n1_; have HO_9 := n2_; have BK303 := n3_; have BK310 := n4_; have HB := n5_; clear n0_ n1_ n2_ n3_ n4_ n5_))
                                      have n0_ := Aside0.mk (Kd.R_drew HO_9.out)
                                      have n1_ := Aside0.mk (Kd.R_drew HO319.out)
                                      have n2_ := Aside0.mk (Kd.R_drew HO323.out)
                                      have n3_ := Aside0.mk (blk_drew BK303.out)
                                      have n4_ := Aside0.mk (blk_drew BK310.out)
                                      have n5_ := Aside0.mk (below_drew1 HB.out)
                                      clear HO_9
                                      clear HO319
                                      clear HO323
                                      clear BK303
                                      clear BK310
                                      clear HB
                                      have HO_9 := n0_
                                      have HO319 := n1_
                                      have HO323 := n2_
                                      have BK303 := n3_
                                      have BK310 := n4_
                                      have HB := n5_
                                      clear n0_ n1_ n2_ n3_ n4_ n5_
                                      have p324 : 0 ≤ (x11_2 : Int) := of_decide_eq_true (by first | (with_reducible assumption) | assumption)
                                      have q324 : x11_2 < (t311.length : Int) := of_decide_eq_true (by first | (with_reducible assumption) | assumption)
                                      obtain ⟨ad324, e324, hx324_0⟩ := Kd.at_string (Kd.R_reads' HO_9.out).2.2 x11_2 p324 q324
                                      obtain rfl : ad315 = ad324 := (by injection e324)
                                      replace p324 := eq_true p324
                                      replace q324 := eq_true q324
                                      refine start_ (n := 11) (S := fun w' => w'.cell? ⟨gb310, 0, none⟩ = some (.int .u32 ((t306) % 4294967296)) ∧ w'.cell? ⟨gb310, 1, none⟩ = some (.int .i64 (wrap64 (t308))) ∧ w'.cell? ⟨gb310, 2, none⟩ = some (.slice Ao38 y321.length co38) ∧ w'.cell? ⟨gb310, 3, none⟩ = some (.int .i64 x311003_2) ∧ w'.cell? (ad315.add (x11_2).toNat) = some (.string (rdOf ByteArray.empty t311 x11_2))) (ds := [10]) #[false, false, false, false, false, false, false, false, false, false, false] (by kernel_rfl) rfl rfl ⟨(blk_cell BK310.out 0).trans rfl, (blk_cell BK310.out 1).trans rfl, (blk_cell BK310.out 2).trans rfl, (blk_cell BK310.out 3).trans rfl, hx324_0⟩ (fun hHeld => ?_); refine with_tabW merkhetref07_Read.tab20 merkhetref07_Read.bits20 (fun HT_ HW_ => ?_)
                                      generalize w40.drew = w41 at HO_9 HO319 HO323 BK303 BK310 HB hx324_0 hHeld ⊢
                                      refine pure_ (i := 0) (N := some 86) (v := ?_) (a' := ?_) #[true, false, false, false, false, false, false, false, false, false, false] rfl rfl (any_of HT_.out (by kernel_rfl)) (fun _ _ _ h => h) (Or.inl ⟨by rfl, ?_⟩) ?_ ?_
                                      rotate_left
                                      · intro w'
                                        go_simp
                                        with_reducible rfl
                                      rotate_left
                                      · simp only [Act.put, List.setIfInBounds_toArray, List.set_cons_zero, List.set_cons_succ, i64_w, i32_w]
                                        rfl
                                      refine pure_ (i := 3) (N := some 89) (v := ?_) (a' := ?_) #[true, false, false, true, false, false, false, false, false, false, false] rfl rfl (any_of HT_.out (by kernel_rfl)) (fun _ _ _ h => h) (Or.inl ⟨by rfl, ?_⟩) ?_ ?_
                                      rotate_left
                                      · intro w'
                                        go_simp
                                        with_reducible rfl
                                      rotate_left
                                      · simp only [Act.put, List.setIfInBounds_toArray, List.set_cons_zero, List.set_cons_succ, i64_w, i32_w]
                                        rfl
                                      refine pure_ (i := 4) (N := some 90) (v := ?_) (a' := ?_) #[true, false, false, true, true, false, false, false, false, false, false] rfl rfl (any_of HT_.out (by kernel_rfl)) (fun _ _ _ h => h) (Or.inl ⟨by rfl, ?_⟩) ?_ ?_
                                      rotate_left
                                      · intro w'
                                        go_simp
                                        with_reducible rfl
                                      rotate_left
                                      · simp only [Act.put, List.setIfInBounds_toArray, List.set_cons_zero, List.set_cons_succ, i64_w, i32_w]
                                        rfl
                                      refine pure_ (i := 5) (N := some 91) (v := ?_) (a' := ?_) #[true, false, false, true, true, true, false, false, false, false, false] rfl rfl (any_of HT_.out (by kernel_rfl)) (fun _ _ _ h => h) (Or.inl ⟨by rfl, ?_⟩) ?_ ?_
                                      rotate_left
                                      · intro w'
                                        go_simp
                                        with_reducible rfl
                                      rotate_left
                                      · simp only [Act.put, List.setIfInBounds_toArray, List.set_cons_zero, List.set_cons_succ, i64_w, i32_w]
                                        rfl
                                      refine take_ (i := 1) (N := some 87) (v := ?_) (a' := ?_) #[true, true, false, true, true, true, false, false, false, false, false] rfl rfl (take_ofW HT_.out HW_.out (by kernel_rfl)) (fun _ _ _ h => h) (Or.inl ⟨by rfl, ?_⟩) hHeld ?_ ?_
                                      rotate_left
                                      · rintro w' ⟨s0, s1, s2, s3, s4⟩
                                        go_simp
                                        with_reducible rfl
                                      rotate_left
                                      · simp only [Act.put, List.setIfInBounds_toArray, List.set_cons_zero, List.set_cons_succ, i64_w, i32_w]
                                        rfl
                                      refine pure_ (i := 2) (N := some 88) (v := ?_) (a' := ?_) #[true, true, true, true, true, true, false, false, false, false, false] rfl rfl (any_of HT_.out (by kernel_rfl)) (fun _ _ _ h => h) (Or.inl ⟨by rfl, ?_⟩) ?_ ?_
                                      rotate_left
                                      · intro w'
                                        go_simp
                                        with_reducible rfl
                                      rotate_left
                                      · simp only [Act.put, List.setIfInBounds_toArray, List.set_cons_zero, List.set_cons_succ, i64_w, i32_w]
                                        rfl
                                      refine take_ (i := 6) (N := some 92) (v := ?_) (a' := ?_) #[true, true, true, true, true, true, true, false, false, false, false] rfl rfl (take_ofW HT_.out HW_.out (by kernel_rfl)) (fun _ _ _ h => h) (Or.inl ⟨by rfl, ?_⟩) hHeld ?_ ?_
                                      rotate_left
                                      · rintro w' ⟨s0, s1, s2, s3, s4⟩
                                        go_simp
                                        with_reducible rfl
                                      rotate_left
                                      · simp only [Act.put, List.setIfInBounds_toArray, List.set_cons_zero, List.set_cons_succ, i64_w, i32_w]
                                        rfl
                                      refine pure_ (i := 7) (N := some 93) (v := ?_) (a' := ?_) #[true, true, true, true, true, true, true, true, false, false, false] rfl rfl (any_of HT_.out (by kernel_rfl)) (fun _ _ _ h => h) (Or.inl ⟨by rfl, ?_⟩) ?_ ?_
                                      rotate_left
                                      · intro w'
                                        go_simp
                                        with_reducible rfl
                                      rotate_left
                                      · simp only [Act.put, List.setIfInBounds_toArray, List.set_cons_zero, List.set_cons_succ, i64_w, i32_w]
                                        rfl
                                      refine pure_ (i := 8) (N := some 94) (v := ?_) (a' := ?_) #[true, true, true, true, true, true, true, true, true, false, false] rfl rfl (any_of HT_.out (by kernel_rfl)) (fun _ _ _ h => h) (Or.inl ⟨by rfl, ?_⟩) ?_ ?_
                                      rotate_left
                                      · intro w'
                                        go_simp
                                        with_reducible rfl
                                      rotate_left
                                      · simp only [Act.put, List.setIfInBounds_toArray, List.set_cons_zero, List.set_cons_succ, i64_w, i32_w]
                                        rfl
                                      refine pure_ (i := 9) (N := some 95) (v := ?_) (a' := ?_) #[true, true, true, true, true, true, true, true, true, true, false] rfl rfl (any_of HT_.out (by kernel_rfl)) (fun _ _ _ h => h) (Or.inl ⟨by rfl, ?_⟩) ?_ ?_
                                      rotate_left
                                      · intro w'
                                        go_simp
                                        with_reducible rfl
                                      rotate_left
                                      · simp only [Act.put, List.setIfInBounds_toArray, List.set_cons_zero, List.set_cons_succ, i64_w, i32_w]
                                        rfl
                                      refine last_ (i := 10) (N := none) #[true, true, true, true, true, true, true, true, true, true, true] rfl rfl (one_of HT_.out (by kernel_rfl)) (by decide) (fun K hK => ?_)
                                      have hs42 : w41.cell? ⟨gb310, 3, none⟩ = some (.int .i64 x311003_2) := (blk_cell BK310.out 3).trans rfl
                                      have hfs42 := blk_frozen BK310.out 3
                                      have hns42_0 := NB303_310.out
                                      have hms42_0 := NB310_303.out
                                      refine skip_ (w1 := ?_) (by rfl) rfl ?_ ?_
                                      rotate_left
                                      · go_simp
                                        rfl
                                      refine hK.out _ _ ?_
                                      clear hK K
                                      refine done_ (done_of HT_.out (by kernel_rfl)) ?_
                                      try go_wp2
                                      go_roundg k2
                                      case measure => have := HJ16.out; have := HK2.out; omega
                                      case rel => exact ⟨(wrap64 (x11_2 + 1)), (x304000_2), (x304001_2), (x304003_2), (y321), (wrap64 ((wrap64 (x311003_2 + 6)) + ((rdOf ByteArray.empty t311 x11_2).size : Int))), (.slice Ao38 y321.length co38), (by first | rfl | (simp; done) | (simp [*]; done)), H', ⟨by have := HJ16.out; have := HK2.out; omega⟩, ⟨by (with_reducible repeat (first | apply Kd.R_alloc | apply Kd.R_drewN | apply Kd.R_drew)); exact Kd.R_mono (Kd.R_far (p := ⟨gb310, 3, none⟩) (Kd.R_types HO_9.out BK310.out (by decide)) (fun _ hk => hk.2) (.int .i64 (wrap64 ((wrap64 (x311003_2 + 6)) + ((rdOf ByteArray.empty t311 x11_2).size : Int))))) (fun _ hk => hk.1)⟩, ⟨by (with_reducible repeat (first | apply Kd.R_alloc | apply Kd.R_drewN | apply Kd.R_drew)); exact Kd.R_mono (Kd.R_far (p := ⟨gb310, 3, none⟩) (Kd.R_types HO323.out BK310.out (by decide)) (fun _ hk => hk.2) (.int .i64 (wrap64 ((wrap64 (x311003_2 + 6)) + ((rdOf ByteArray.empty t311 x11_2).size : Int))))) (fun _ hk => hk.1)⟩, ⟨by (with_reducible repeat (first | refine blk_drewN ?_ _ | refine blk_drew ?_ | refine blk_alloc ?_ _)); refine blk_far ?_ NB303_310.out _; (with_reducible repeat (first | refine blk_drewN ?_ _ | refine blk_drew ?_ | refine blk_alloc ?_ _)); exact BK303.out⟩, ⟨by (with_reducible repeat (first | refine blk_drewN ?_ _ | refine blk_drew ?_ | refine blk_alloc ?_ _)); refine blk_put (cs := #[.int .u32 ((t306) % 4294967296), .int .i64 (wrap64 (t308)), .slice Ao38 y321.length co38, .int .i64 x311003_2]) ?_ 3 _ rfl; (with_reducible repeat (first | refine blk_drewN ?_ _ | refine blk_drew ?_ | refine blk_alloc ?_ _)); exact BK310.out⟩, ⟨by repeat (first | (with_reducible first | exact HB.out | apply below_alloc | apply pw_below_drewN | apply below_drew1 | refine below_set ?_ GE303.out | refine below_set ?_ GE310.out) | exact HB.out)⟩⟩
                                    · rw [if_neg c33] at H
                                      exact absurd H (by simp)
                                  · rw [if_neg c32] at H
                                    have c32b0 : (t317 == 0) = false := beq_eq_false_iff_ne.mpr c32
                                    have c32b1 : (t317 != 0) = true := bne_iff_ne.mpr c32
                                    simp only [Option.some.injEq, Prod.mk.injEq] at H
                                    obtain ⟨rfl, rfl, rfl, rfl, rfl⟩ := H
                                    obtain ⟨Ao43, co43, eo43⟩ := Kd.R_slice HO_9.out
                                    subst eo43
                                    have p315 : 0 ≤ (x11_2 : Int) := of_decide_eq_true (by first | (with_reducible assumption) | assumption)
                                    have q315 : x11_2 < (t311.length : Int) := of_decide_eq_true (by first | (with_reducible assumption) | assumption)
                                    obtain ⟨ad315, e315, hx315_0⟩ := Kd.at_string (Kd.R_reads' HO_9.out).2.2 x11_2 p315 q315
                                    cases e315
                                    replace p315 := eq_true p315
                                    replace q315 := eq_true q315
                                    go_wp2_with (first | ((with_reducible refine gate_callee (f := 30) rfl ?_); refine goesL_ (some 71) rfl rfl Try.func30 (by kernel_rfl) rfl #[.string (rdOf ByteArray.empty t311 x11_2)] rfl (by (try simp only [List.map_toArray, List.map_cons, List.map_nil]); first | done | rfl | (simp only [List.length_drop, List.length_take]; rfl) | (rw [Go.Proofs.Ytdpodjgggicaoaa.H.u64_id _ (by simp only [decide_eq_false_iff_not, decide_eq_true_eq, Nat.not_lt, Int.not_lt] at *; omega) (by simp only [decide_eq_false_iff_not, decide_eq_true_eq, Nat.not_lt, Int.not_lt] at *; omega)]; rfl)) ?_; (with_reducible refine (merkhetref04_Get.calls k2 (rdOf ByteArray.empty t311 x11_2) t316 t317 _ A31.out).mono ?_); rintro e w44 ⟨v318, rfl, ho0, hb⟩; refine ⟨_, rfl, ?_⟩; have n0_ := Aside0.mk (Kd.R_below (by (with_reducible repeat (first | apply Kd.R_alloc | apply Kd.R_drewN | apply Kd.R_drew)); exact HO_9.out) hb); have n1_ := Aside0.mk (Kd.R_below (by (with_reducible repeat (first | apply Kd.R_alloc | apply Kd.R_drewN | apply Kd.R_drew)); exact HO_311002.out) hb); have n2_ := Aside0.mk (Kd.R_lower ho0 (below_size (by repeat (first | (with_reducible first | exact HB.out | apply below_alloc | apply pw_below_drewN | apply below_drew1 | refine below_set ?_ GE303.out | refine below_set ?_ GE310.out) | exact HB.out)))); have n3_ := Aside0.mk (blk_below (g := gb303) (o := .cells #[.int .u32 x304000_2, .int .i64 x304001_2, .slice none 0 0, .int .i64 x304003_2] 69 (0, 0)) (by (with_reducible repeat (first | refine blk_drewN ?_ _ | refine blk_drew ?_ | refine blk_alloc ?_ _)); exact BK303.out) hb); have n4_ := Aside0.mk (blk_below (g := gb310) (o := .cells #[.int .u32 ((t306) % 4294967296), .int .i64 (wrap64 (t308)), u311002, .int .i64 x311003_2] 69 (0, 0)) (by (with_reducible repeat (first | refine blk_drewN ?_ _ | refine blk_drew ?_ | refine blk_alloc ?_ _)); exact BK310.out) hb); have n5_ := Aside0.mk (below_step (by repeat (first | (with_reducible first | exact HB.out | apply below_alloc | apply pw_below_drewN | apply below_drew1 | refine below_set ?_ GE303.out | refine below_set ?_ GE310.out) | exact HB.out)) hb); clear HO_9; clear HO_311002; clear BK303; clear BK310; clear HB; have HO_9 := n0_; have HO_311002 := n1_; have HO319 := n2_; have BK303 := n3_; have BK310 := n4_; have HB := n5_; clear n0_ n1_ n2_ n3_ n4_ n5_; (try clear hb); (try clear hb2); (try clear hk); (try clear hi); (try clear ho0); have hnb45 := NB310_303.out; have hnc45 := NB303_310.out; have hcz46_0 : w44.cell? ⟨gb310, 0, none⟩ = some (.int .u32 ((t306) % 4294967296)) := (blk_cell BK310.out 0).trans rfl; have hcz46_1 : w44.cell? ⟨gb310, 1, none⟩ = some (.int .i64 (wrap64 (t308))) := (blk_cell BK310.out 1).trans rfl; have hcz46_2 : w44.cell? ⟨gb310, 2, none⟩ = some (u311002) := (blk_cell BK310.out 2).trans rfl; have hcz46_3 : w44.cell? ⟨gb310, 3, none⟩ = some (.int .i64 x311003_2) := (blk_cell BK310.out 3).trans rfl; have hfz46_0 := blk_frozen BK310.out 0; have hfz46_1 := blk_frozen BK310.out 1; have hfz46_2 := blk_frozen BK310.out 2; have hfz46_3 := blk_frozen BK310.out 3; have hcz47_0 : w44.cell? ⟨gb303, 0, none⟩ = some (.int .u32 x304000_2) := (blk_cell BK303.out 0).trans rfl; have hcz47_1 : w44.cell? ⟨gb303, 1, none⟩ = some (.int .i64 x304001_2) := (blk_cell BK303.out 1).trans rfl; have hcz47_2 : w44.cell? ⟨gb303, 2, none⟩ = some (.slice none 0 0) := (blk_cell BK303.out 2).trans rfl; have hcz47_3 : w44.cell? ⟨gb303, 3, none⟩ = some (.int .i64 x304003_2) := (blk_cell BK303.out 3).trans rfl; have hfz47_0 := blk_frozen BK303.out 0; have hfz47_1 := blk_frozen BK303.out 1; have hfz47_2 := blk_frozen BK303.out 2; have hfz47_3 := blk_frozen BK303.out 3; obtain ⟨Ao48, co48, eo48⟩ := Kd.R_slice HO_311002.out; subst eo48))
                                    refine bodyPost_ret (results_ct rfl _ _ gb303 69 #[.int .u32 ((t306) % 4294967296), .int .i64 (wrap64 (t308)), .slice Ao48 x311002_2.length co48, .int .i64 x311003_2] (0, 0) _ rfl (by (with_reducible repeat (first | refine blk_drewN ?_ _ | refine blk_drew ?_ | refine blk_alloc ?_ _)); refine blk_put (cs := #[.int .u32 ((t306) % 4294967296), .int .i64 (wrap64 (t308)), .slice Ao48 x311002_2.length co48, .int .i64 x304003_2]) ?_ 3 _ rfl; (with_reducible repeat (first | refine blk_drewN ?_ _ | refine blk_drew ?_ | refine blk_alloc ?_ _)); refine blk_put (cs := #[.int .u32 ((t306) % 4294967296), .int .i64 (wrap64 (t308)), .slice none 0 0, .int .i64 x304003_2]) ?_ 2 _ rfl; (with_reducible repeat (first | refine blk_drewN ?_ _ | refine blk_drew ?_ | refine blk_alloc ?_ _)); refine blk_put (cs := #[.int .u32 ((t306) % 4294967296), .int .i64 x304001_2, .slice none 0 0, .int .i64 x304003_2]) ?_ 1 _ rfl; (with_reducible repeat (first | refine blk_drewN ?_ _ | refine blk_drew ?_ | refine blk_alloc ?_ _)); refine blk_put (cs := #[.int .u32 x304000_2, .int .i64 x304001_2, .slice none 0 0, .int .i64 x304003_2]) ?_ 0 _ rfl; (with_reducible repeat (first | refine blk_drewN ?_ _ | refine blk_drew ?_ | refine blk_alloc ?_ _)); exact BK303.out) Try.underlying69 rfl (by kernel_rfl)) rfl ?_
                                    exact ⟨_, by first | rfl | (simp [errW_none, errW_some] <;> rfl) | (simp [*, errW_none, errW_some] <;> rfl), by (with_reducible repeat (first | apply Kd.R_alloc | apply Kd.R_drewN | apply Kd.R_drew)); exact Kd.R_mono (Kd.R_far (p := ⟨gb303, 3, none⟩) (Kd.R_far (p := ⟨gb303, 2, none⟩) (Kd.R_far (p := ⟨gb303, 1, none⟩) (Kd.R_far (p := ⟨gb303, 0, none⟩) (Kd.R_types HO_311002.out BK303.out (by decide)) (fun _ hk => hk.2) (.int .u32 ((t306) % 4294967296))) (fun _ hk => hk.2) (.int .i64 (wrap64 (t308)))) (fun _ hk => hk.2) (.slice Ao48 x311002_2.length co48)) (fun _ hk => hk.2) (.int .i64 x311003_2)) (fun _ hk => trivial), by repeat (first | (with_reducible first | exact HB.out | apply below_alloc | apply pw_below_drewN | apply below_drew1 | refine below_set ?_ GE303.out | refine below_set ?_ GE310.out) | exact HB.out)⟩
                                · rw [if_neg c30] at H
                                  exact absurd H (by simp)
                              · rw [if_neg c29] at H
                                have c29b0 : decide (x11_2 < (t311.length : Int)) = false := decide_eq_false c29
                                clear c29
                                simp only [Option.some.injEq, Prod.mk.injEq] at H
                                obtain ⟨rfl, rfl, rfl, rfl, rfl⟩ := H
                                obtain ⟨Ao49, co49, eo49⟩ := Kd.R_slice HO_9.out
                                subst eo49
                                have hnb50 := NB310_303.out
                                have hnc50 := NB303_310.out
                                have hcz51_0 : wr.cell? ⟨gb310, 0, none⟩ = some (.int .u32 ((t306) % 4294967296)) := (blk_cell BK310.out 0).trans rfl
                                have hcz51_1 : wr.cell? ⟨gb310, 1, none⟩ = some (.int .i64 (wrap64 (t308))) := (blk_cell BK310.out 1).trans rfl
                                have hcz51_2 : wr.cell? ⟨gb310, 2, none⟩ = some (u311002) := (blk_cell BK310.out 2).trans rfl
                                have hcz51_3 : wr.cell? ⟨gb310, 3, none⟩ = some (.int .i64 x311003_2) := (blk_cell BK310.out 3).trans rfl
                                have hfz51_0 := blk_frozen BK310.out 0
                                have hfz51_1 := blk_frozen BK310.out 1
                                have hfz51_2 := blk_frozen BK310.out 2
                                have hfz51_3 := blk_frozen BK310.out 3
                                have hcz52_0 : wr.cell? ⟨gb303, 0, none⟩ = some (.int .u32 x304000_2) := (blk_cell BK303.out 0).trans rfl
                                have hcz52_1 : wr.cell? ⟨gb303, 1, none⟩ = some (.int .i64 x304001_2) := (blk_cell BK303.out 1).trans rfl
                                have hcz52_2 : wr.cell? ⟨gb303, 2, none⟩ = some (.slice none 0 0) := (blk_cell BK303.out 2).trans rfl
                                have hcz52_3 : wr.cell? ⟨gb303, 3, none⟩ = some (.int .i64 x304003_2) := (blk_cell BK303.out 3).trans rfl
                                have hfz52_0 := blk_frozen BK303.out 0
                                have hfz52_1 := blk_frozen BK303.out 1
                                have hfz52_2 := blk_frozen BK303.out 2
                                have hfz52_3 := blk_frozen BK303.out 3
                                obtain ⟨Ao53, co53, eo53⟩ := Kd.R_slice HO_311002.out
                                subst eo53
                                go_wp2
                                refine bodyPost_ret (results_ct rfl _ _ gb303 69 #[.int .u32 ((t306) % 4294967296), .int .i64 (wrap64 (t308)), .slice Ao53 x311002_2.length co53, .int .i64 x311003_2] (0, 0) _ rfl (by (with_reducible repeat (first | refine blk_drewN ?_ _ | refine blk_drew ?_ | refine blk_alloc ?_ _)); refine blk_put (cs := #[.int .u32 ((t306) % 4294967296), .int .i64 (wrap64 (t308)), .slice Ao53 x311002_2.length co53, .int .i64 x304003_2]) ?_ 3 _ rfl; (with_reducible repeat (first | refine blk_drewN ?_ _ | refine blk_drew ?_ | refine blk_alloc ?_ _)); refine blk_put (cs := #[.int .u32 ((t306) % 4294967296), .int .i64 (wrap64 (t308)), .slice none 0 0, .int .i64 x304003_2]) ?_ 2 _ rfl; (with_reducible repeat (first | refine blk_drewN ?_ _ | refine blk_drew ?_ | refine blk_alloc ?_ _)); refine blk_put (cs := #[.int .u32 ((t306) % 4294967296), .int .i64 x304001_2, .slice none 0 0, .int .i64 x304003_2]) ?_ 1 _ rfl; (with_reducible repeat (first | refine blk_drewN ?_ _ | refine blk_drew ?_ | refine blk_alloc ?_ _)); refine blk_put (cs := #[.int .u32 x304000_2, .int .i64 x304001_2, .slice none 0 0, .int .i64 x304003_2]) ?_ 0 _ rfl; (with_reducible repeat (first | refine blk_drewN ?_ _ | refine blk_drew ?_ | refine blk_alloc ?_ _)); exact BK303.out) Try.underlying69 rfl (by kernel_rfl)) rfl ?_
                                exact ⟨_, by first | rfl | (simp [errW_none, errW_some] <;> rfl) | (simp [*, errW_none, errW_some] <;> rfl), by (with_reducible repeat (first | apply Kd.R_alloc | apply Kd.R_drewN | apply Kd.R_drew)); exact Kd.R_mono (Kd.R_far (p := ⟨gb303, 3, none⟩) (Kd.R_far (p := ⟨gb303, 2, none⟩) (Kd.R_far (p := ⟨gb303, 1, none⟩) (Kd.R_far (p := ⟨gb303, 0, none⟩) (Kd.R_types HO_311002.out BK303.out (by decide)) (fun _ hk => hk.2) (.int .u32 ((t306) % 4294967296))) (fun _ hk => hk.2) (.int .i64 (wrap64 (t308)))) (fun _ hk => hk.2) (.slice Ao53 x311002_2.length co53)) (fun _ hk => hk.2) (.int .i64 x311003_2)) (fun _ hk => trivial), by repeat (first | (with_reducible first | exact HB.out | apply below_alloc | apply pw_below_drewN | apply below_drew1 | refine below_set ?_ GE303.out | refine below_set ?_ GE310.out) | exact HB.out)⟩
                  · rw [if_neg c14] at H
                    have c14b0 : (t305.toList == (a0.extract 10 14).toList) = false := beq_eq_false_iff_ne.mpr c14
                    have c14b1 : (t305.toList != (a0.extract 10 14).toList) = true := bne_iff_ne.mpr c14
                    simp only [Option.some.injEq, Prod.mk.injEq] at H
                    obtain ⟨rfl, rfl, rfl, rfl, rfl⟩ := H
                    go_enter Try.func35, Try.ntmps35
                    try go_wp2_with (first | ((with_reducible refine gate_dst (N := 2) rfl ?_); refine box_event ?hg (N := 2) ?hd (cs := #[.int .u32 0, .int .i64 0, .slice none 0 0, .int .i64 0]) (t := 69) ?hr ?_; (case hd => rfl); (case hg => rfl); (case hr => first | (go_simp; done) | (go_simp; rfl)); intro gb303 hg w54 hbox hb; have n0_ := Aside0.mk (below_step (by repeat (first | (with_reducible first | exact HB.out | apply below_alloc | apply pw_below_drewN | apply below_drew1) | exact HB.out)) hb); have n1_ := Aside0.mk (hbox); have n2_ := Aside0.mk ((by rw [hg]; exact (below_size (by repeat (first | (with_reducible first | exact HB.out | apply below_alloc | apply pw_below_drewN | apply below_drew1) | exact HB.out))) : w.heap.size ≤ gb303)); have n3_ := Aside0.mk ((by rw [hg]; exact (below_size (by repeat (first | (with_reducible first | exact HB.out | apply below_alloc | apply pw_below_drewN | apply below_drew1) | exact HB.out))) : w.heap.size ≤ gb303)); clear HB; have HB := n0_; have BK303 := n1_; have GW303 := n2_; have GE303 := n3_; clear n0_ n1_ n2_ n3_; clear hb hbox hg))
                    (try (rw [drewN_self w54]; generalize hq_ : World.drewN w54 _ = w54; have n0_ : Aside0 (w54.heap[gb303]? = some (.cells #[.int .u32 0, .int .i64 0, .slice none 0 0, .int .i64 0] 69 (0, 0))) := ⟨by rw [← hq_]; exact (by (with_reducible repeat (first | refine blk_drewN ?_ _ | refine blk_drew ?_ | refine blk_alloc ?_ _)); exact BK303.out)⟩; have n1_ : Aside0 (Below w.heap.size w w54) := ⟨by rw [← hq_]; exact (by repeat (first | (with_reducible first | exact HB.out | apply below_alloc | apply pw_below_drewN | apply below_drew1 | refine below_set ?_ GE303.out) | exact HB.out))⟩; clear BK303 HB hq_; have BK303 := n0_; have HB := n1_; clear n0_ n1_))
                    have n0_ := Aside0.mk (blk_drew BK303.out)
                    have n1_ := Aside0.mk (below_drew1 HB.out)
                    clear BK303
                    clear HB
                    have BK303 := n0_
                    have HB := n1_
                    clear n0_ n1_
                    refine start_ (n := 8) (S := fun w' => True) (ds := []) #[false, false, false, false, false, false, false, false] (by kernel_rfl) rfl rfl trivial (fun hHeld => ?_); refine with_tabW merkhetref07_Read.tab5 merkhetref07_Read.bits5 (fun HT_ HW_ => ?_)
                    generalize w54.drew = w55 at BK303 HB hHeld ⊢
                    refine pure_ (i := 0) (N := some 22) (v := ?_) (a' := ?_) #[true, false, false, false, false, false, false, false] rfl rfl (any_of HT_.out (by kernel_rfl)) (fun _ _ _ h => h) (Or.inl ⟨by rfl, ?_⟩) ?_ ?_
                    rotate_left
                    · intro w'
                      go_simp
                      with_reducible rfl
                    rotate_left
                    · simp only [Act.put, List.setIfInBounds_toArray, List.set_cons_zero, List.set_cons_succ, i64_w, i32_w]
                      rfl
                    refine pure_ (i := 1) (N := some 23) (v := ?_) (a' := ?_) #[true, true, false, false, false, false, false, false] rfl rfl (any_of HT_.out (by kernel_rfl)) (fun _ _ _ h => h) (Or.inl ⟨by rfl, ?_⟩) ?_ ?_
                    rotate_left
                    · intro w'
                      go_simp
                      with_reducible rfl
                    rotate_left
                    · simp only [Act.put, List.setIfInBounds_toArray, List.set_cons_zero, List.set_cons_succ, i64_w, i32_w]
                      rfl
                    refine pure_ (i := 5) (N := some 27) (v := ?_) (a' := ?_) #[true, true, false, false, false, true, false, false] rfl rfl (any_of HT_.out (by kernel_rfl)) (fun _ _ _ h => h) (Or.inl ⟨by rfl, ?_⟩) ?_ ?_
                    rotate_left
                    · intro w'
                      go_simp
                      with_reducible rfl
                    rotate_left
                    · simp only [Act.put, List.setIfInBounds_toArray, List.set_cons_zero, List.set_cons_succ, i64_w, i32_w]
                      rfl
                    refine pure_ (i := 6) (N := some 28) (v := ?_) (a' := ?_) #[true, true, false, false, false, true, true, false] rfl rfl (any_of HT_.out (by kernel_rfl)) (fun _ _ _ h => h) (Or.inl ⟨by rfl, ?_⟩) ?_ ?_
                    rotate_left
                    · intro w'
                      go_simp
                      with_reducible rfl
                    rotate_left
                    · simp only [Act.put, List.setIfInBounds_toArray, List.set_cons_zero, List.set_cons_succ, i64_w, i32_w]
                      rfl
                    refine one_ (i := 2) (N := some 24) #[true, true, true, false, false, true, true, false] rfl rfl (one_of HT_.out (by kernel_rfl)) (by decide) (fun K hK => ?_)
                    refine goes_ Try.func42 (by kernel_rfl) rfl #[.string (a0.extract 0 10)] (by rfl) rfl rfl (by (try simp only [List.map_toArray, List.map_cons, List.map_nil]); first | done | rfl | (simp only [List.length_drop, List.length_take]; rfl) | (rw [Go.Proofs.Ytdpodjgggicaoaa.H.u64_id _ (by simp only [decide_eq_false_iff_not, decide_eq_true_eq, Nat.not_lt, Int.not_lt] at *; omega) (by simp only [decide_eq_false_iff_not, decide_eq_true_eq, Nat.not_lt, Int.not_lt] at *; omega)]; rfl)) ?_
                    with_reducible refine (merkhetref03_Sum.calls k (a0.extract 0 10) t304 _ A10.out).mono ?_
                    rintro e w' ⟨rfl, ⟨nd, rfl⟩⟩
                    refine ⟨_, rfl, ?_⟩
                    refine hK.out _ _ trivial (fun hHeld => ?_)
                    clear hK K
                    refine norm_ (a' := ?_) ?_ ?_
                    rotate_left
                    · show Act.put _ (some 24) _ = _
                      simp only [Act.put, List.setIfInBounds_toArray, List.set_cons_zero, List.set_cons_succ, i64_w, i32_w]
                      rfl
                    refine pure_ (i := 3) (N := some 25) (v := ?_) (a' := ?_) #[true, true, true, true, false, true, true, false] rfl rfl (any_of HT_.out (by kernel_rfl)) (fun _ _ _ h => h) (Or.inl ⟨by rfl, ?_⟩) ?_ ?_
                    rotate_left
                    · intro w'
                      go_simp
                      with_reducible rfl
                    rotate_left
                    · simp only [Act.put, List.setIfInBounds_toArray, List.set_cons_zero, List.set_cons_succ, i64_w, i32_w]
                      rfl
                    refine one_ (i := 4) (N := some 26) #[true, true, true, true, true, true, true, false] rfl rfl (one_of HT_.out (by kernel_rfl)) (by decide) (fun K hK => ?_)
                    refine goes_ Try.func41 (by kernel_rfl) rfl #[.int .u64 (IntKind.u64.wrap (t304)), .int .i64 4] (by rfl) rfl rfl (by (try simp only [List.map_toArray, List.map_cons, List.map_nil]); first | done | rfl | (simp only [List.length_drop, List.length_take]; rfl) | (rw [Go.Proofs.Ytdpodjgggicaoaa.H.u64_id _ (by simp only [decide_eq_false_iff_not, decide_eq_true_eq, Nat.not_lt, Int.not_lt] at *; omega) (by simp only [decide_eq_false_iff_not, decide_eq_true_eq, Nat.not_lt, Int.not_lt] at *; omega)]; rfl)) ?_
                    with_reducible refine (merkhetref02_Put.calls k (IntKind.u64.wrap (t304)) 4 t305 _ A11.out).mono ?_
                    rintro e w56 ⟨rfl, hb⟩
                    refine ⟨_, rfl, ?_⟩
                    have n0_ := Aside0.mk (blk_below (g := gb303) (o := .cells #[.int .u32 0, .int .i64 0, .slice none 0 0, .int .i64 0] 69 (0, 0)) (by (with_reducible repeat (first | refine blk_drewN ?_ _ | refine blk_drew ?_ | refine blk_alloc ?_ _)); exact BK303.out) hb)
                    have n1_ := Aside0.mk (below_step (by repeat (first | (with_reducible first | exact HB.out | apply below_alloc | apply pw_below_drewN | apply below_drew1 | refine below_set ?_ GE303.out) | exact HB.out)) hb)
                    clear BK303
                    clear HB
                    have BK303 := n0_
                    have HB := n1_
                    clear n0_ n1_
                    (try clear hb)
                    (try clear hb2)
                    (try clear hk)
                    (try clear hi)
                    refine hK.out _ _ trivial (fun hHeld => ?_)
                    clear hK K
                    refine norm_ (a' := ?_) ?_ ?_
                    rotate_left
                    · show Act.put _ (some 26) _ = _
                      simp only [Act.put, List.setIfInBounds_toArray, List.set_cons_zero, List.set_cons_succ, i64_w, i32_w]
                      rfl
                    refine pure_ (i := 7) (N := some 29) (v := ?_) (a' := ?_) #[true, true, true, true, true, true, true, true] rfl rfl (any_of HT_.out (by kernel_rfl)) (fun _ _ _ h => h) (Or.inl ⟨by rfl, ?_⟩) ?_ ?_
                    rotate_left
                    · intro w'
                      go_simp
                      with_reducible rfl
                    rotate_left
                    · simp only [Act.put, List.setIfInBounds_toArray, List.set_cons_zero, List.set_cons_succ, i64_w, i32_w]
                      rfl
                    refine done_ (done_of HT_.out (by kernel_rfl)) ?_
                    have hcz57_0 : w56.cell? ⟨gb303, 0, none⟩ = some (.int .u32 0) := (blk_cell BK303.out 0).trans rfl
                    have hcz57_1 : w56.cell? ⟨gb303, 1, none⟩ = some (.int .i64 0) := (blk_cell BK303.out 1).trans rfl
                    have hcz57_2 : w56.cell? ⟨gb303, 2, none⟩ = some (.slice none 0 0) := (blk_cell BK303.out 2).trans rfl
                    have hcz57_3 : w56.cell? ⟨gb303, 3, none⟩ = some (.int .i64 0) := (blk_cell BK303.out 3).trans rfl
                    have hfz57_0 := blk_frozen BK303.out 0
                    have hfz57_1 := blk_frozen BK303.out 1
                    have hfz57_2 := blk_frozen BK303.out 2
                    have hfz57_3 := blk_frozen BK303.out 3
                    try go_wp2
                    refine bodyPost_ret (results_ct rfl _ _ gb303 69 #[.int .u32 0, .int .i64 0, .slice none 0 0, .int .i64 0] (0, 0) _ rfl (by (with_reducible repeat (first | refine blk_drewN ?_ _ | refine blk_drew ?_ | refine blk_alloc ?_ _)); refine blk_put (cs := #[.int .u32 0, .int .i64 0, .slice none 0 0, .int .i64 0]) ?_ 3 _ rfl; (with_reducible repeat (first | refine blk_drewN ?_ _ | refine blk_drew ?_ | refine blk_alloc ?_ _)); refine blk_put (cs := #[.int .u32 0, .int .i64 0, .slice none 0 0, .int .i64 0]) ?_ 2 _ rfl; (with_reducible repeat (first | refine blk_drewN ?_ _ | refine blk_drew ?_ | refine blk_alloc ?_ _)); refine blk_put (cs := #[.int .u32 0, .int .i64 0, .slice none 0 0, .int .i64 0]) ?_ 1 _ rfl; (with_reducible repeat (first | refine blk_drewN ?_ _ | refine blk_drew ?_ | refine blk_alloc ?_ _)); refine blk_put (cs := #[.int .u32 0, .int .i64 0, .slice none 0 0, .int .i64 0]) ?_ 0 _ rfl; (with_reducible repeat (first | refine blk_drewN ?_ _ | refine blk_drew ?_ | refine blk_alloc ?_ _)); exact BK303.out) Try.underlying69 rfl (by kernel_rfl)) rfl ?_
                    exact ⟨_, by first | rfl | (simp [errW_none, errW_some] <;> rfl) | (simp [*, errW_none, errW_some] <;> rfl), by first | exact Kd.R_nil _ _ _ _ _ | exact Kd.N_nil _ _ _ _ _ | exact Kd.V_nil _ _ _ _ _ | exact Kd.Q_nil _ _ _ _ _ | exact Kd.S_nil _ _ _ _ _, by repeat (first | (with_reducible first | exact HB.out | apply below_alloc | apply pw_below_drewN | apply below_drew1 | refine below_set ?_ GE303.out) | exact HB.out)⟩
                · rw [if_neg c13] at H
                  exact absurd H (by simp)
              · rw [if_neg c12] at H
                exact absurd H (by simp)
            · rw [if_neg c9] at H
              exact absurd H (by simp)
          · rw [if_neg c8] at H
            exact absurd H (by simp)
        · rw [if_neg c7] at H
          have c7b0 : ((a0.extract 0 4).toList == ([83, 69, 71, 49] : List UInt8)) = false := beq_eq_false_iff_ne.mpr c7
          have c7b1 : ((a0.extract 0 4).toList != ([83, 69, 71, 49] : List UInt8)) = true := bne_iff_ne.mpr c7
          simp only [Option.some.injEq, Prod.mk.injEq] at H
          obtain ⟨rfl, rfl, rfl, rfl, rfl⟩ := H
          go_enter Try.func35, Try.ntmps35
          go_wp2_with (first | ((with_reducible refine gate_dst (N := 2) rfl ?_); refine box_event ?hg (N := 2) ?hd (cs := #[.int .u32 0, .int .i64 0, .slice none 0 0, .int .i64 0]) (t := 69) ?hr ?_; (case hd => rfl); (case hg => rfl); (case hr => first | (go_simp; done) | (go_simp; rfl)); intro gb303 hg w58 hbox hb; have n0_ := Aside0.mk (below_step (by repeat (first | (with_reducible first | exact HB.out | apply below_alloc | apply pw_below_drewN | apply below_drew1) | exact HB.out)) hb); have n1_ := Aside0.mk (hbox); have n2_ := Aside0.mk ((by rw [hg]; exact (below_size (by repeat (first | (with_reducible first | exact HB.out | apply below_alloc | apply pw_below_drewN | apply below_drew1) | exact HB.out))) : w.heap.size ≤ gb303)); have n3_ := Aside0.mk ((by rw [hg]; exact (below_size (by repeat (first | (with_reducible first | exact HB.out | apply below_alloc | apply pw_below_drewN | apply below_drew1) | exact HB.out))) : w.heap.size ≤ gb303)); clear HB; have HB := n0_; have BK303 := n1_; have GW303 := n2_; have GE303 := n3_; clear n0_ n1_ n2_ n3_; clear hb hbox hg; have hcz59_0 : w58.cell? ⟨gb303, 0, none⟩ = some (.int .u32 0) := (blk_cell BK303.out 0).trans rfl; have hcz59_1 : w58.cell? ⟨gb303, 1, none⟩ = some (.int .i64 0) := (blk_cell BK303.out 1).trans rfl; have hcz59_2 : w58.cell? ⟨gb303, 2, none⟩ = some (.slice none 0 0) := (blk_cell BK303.out 2).trans rfl; have hcz59_3 : w58.cell? ⟨gb303, 3, none⟩ = some (.int .i64 0) := (blk_cell BK303.out 3).trans rfl; have hfz59_0 := blk_frozen BK303.out 0; have hfz59_1 := blk_frozen BK303.out 1; have hfz59_2 := blk_frozen BK303.out 2; have hfz59_3 := blk_frozen BK303.out 3))
          refine bodyPost_ret (results_ct rfl _ _ gb303 69 #[.int .u32 0, .int .i64 0, .slice none 0 0, .int .i64 0] (0, 0) _ rfl (by (with_reducible repeat (first | refine blk_drewN ?_ _ | refine blk_drew ?_ | refine blk_alloc ?_ _)); refine blk_put (cs := #[.int .u32 0, .int .i64 0, .slice none 0 0, .int .i64 0]) ?_ 3 _ rfl; (with_reducible repeat (first | refine blk_drewN ?_ _ | refine blk_drew ?_ | refine blk_alloc ?_ _)); refine blk_put (cs := #[.int .u32 0, .int .i64 0, .slice none 0 0, .int .i64 0]) ?_ 2 _ rfl; (with_reducible repeat (first | refine blk_drewN ?_ _ | refine blk_drew ?_ | refine blk_alloc ?_ _)); refine blk_put (cs := #[.int .u32 0, .int .i64 0, .slice none 0 0, .int .i64 0]) ?_ 1 _ rfl; (with_reducible repeat (first | refine blk_drewN ?_ _ | refine blk_drew ?_ | refine blk_alloc ?_ _)); refine blk_put (cs := #[.int .u32 0, .int .i64 0, .slice none 0 0, .int .i64 0]) ?_ 0 _ rfl; (with_reducible repeat (first | refine blk_drewN ?_ _ | refine blk_drew ?_ | refine blk_alloc ?_ _)); exact BK303.out) Try.underlying69 rfl (by kernel_rfl)) rfl ?_
          exact ⟨_, by first | rfl | (simp [errW_none, errW_some] <;> rfl) | (simp [*, errW_none, errW_some] <;> rfl), by first | exact Kd.R_nil _ _ _ _ _ | exact Kd.N_nil _ _ _ _ _ | exact Kd.V_nil _ _ _ _ _ | exact Kd.Q_nil _ _ _ _ _ | exact Kd.S_nil _ _ _ _ _, by repeat (first | (with_reducible first | exact HB.out | apply below_alloc | apply pw_below_drewN | apply below_drew1 | refine below_set ?_ GE303.out) | exact HB.out)⟩
      · rw [if_neg c6] at H
        exact absurd H (by simp)
    · rw [if_neg c5] at H
      exact absurd H (by simp)
end Go.Proofs.Ytdpodjgggicaoaa.SS
