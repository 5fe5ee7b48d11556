-- WRITTEN FOR THIS CLAIM by wip/tools/mp.py, a program of this project that drives the kit's print; the functions that the print does not take are this project's own texts.
import Derived.Test.YtdpodjgggicaoaaSTx0
import Derived.Test.YtdpodjgggicaoaaSTx2
namespace Go.Proofs.Ytdpodjgggicaoaa.ST
open Go.RowKit Go.Proofs.YtdpodjgggicaoaaW.PrintWords Go.Proofs.YtdpodjgggicaoaaW.PrintLast Go.Proofs.YtdpodjgggicaoaaW.PrintMore
attribute [local go_sem] max2_int min2_int max_two min_two max_three min_three max_four min_four   -- for this text's walks alone
set_option linter.unusedVariables false
set_option linter.unusedSimpArgs false

/-! ### span_May: function 38 -/
mutual
def span_May.j0 : Nat → Bool → Int → Int → Int → Int → ByteArray → ByteArray → Int → Int → Option (Bool)
  | 0, _, _, _, _, _, _, _, _, _ => none
  | k + 1, x3, x137000, x137001, x137002, x137003, x137004, x137005, x137006, x137007 => if x3 = true then (some false) else (if x137006 < 0 then (span_May.j1 k (decide (x137006 < 0)) x137000 x137001 x137002 x137003 x137004 x137005 x137006 x137007) else (if x137006 ≥ 1125899906842624 then (span_May.j1 k (decide (x137006 ≥ 1125899906842624)) x137000 x137001 x137002 x137003 x137004 x137005 x137006 x137007) else (if x137007 < 0 then (span_May.j1 k (decide (x137007 < 0)) x137000 x137001 x137002 x137003 x137004 x137005 x137006 x137007) else (span_May.j1 k (decide (x137007 > 1125899906842624)) x137000 x137001 x137002 x137003 x137004 x137005 x137006 x137007))))
def span_May.j1 : Nat → Bool → Int → Int → Int → Int → ByteArray → ByteArray → Int → Int → Option (Bool)
  | 0, _, _, _, _, _, _, _, _, _ => none
  | k + 1, x18, x137000, x137001, x137002, x137003, x137004, x137005, x137006, x137007 => if x18 = true then (some false) else ((span_Name.f k x137004).bind fun t137 => (if t137 = true then ((span_Name.f k x137005).bind fun t138 => (some t138)) else (some false)))
end
def span_May.f (k : Nat) (a0_0 : Int) (a0_1 : Int) (a0_2 : Int) (a0_3 : Int) (a0_4 : ByteArray) (a0_5 : ByteArray) (a0_6 : Int) (a0_7 : Int) : Option (Bool) := if a0_0 = 0 then (span_May.j0 k (a0_0 == 0) a0_0 a0_1 a0_2 a0_3 a0_4 a0_5 a0_6 a0_7) else (if a0_1 = 0 then (span_May.j0 k (a0_1 == 0) a0_0 a0_1 a0_2 a0_3 a0_4 a0_5 a0_6 a0_7) else (if a0_2 = a0_1 then (span_May.j0 k (a0_2 == a0_1) a0_0 a0_1 a0_2 a0_3 a0_4 a0_5 a0_6 a0_7) else (span_May.j0 k (decide (a0_3 > 2)) a0_0 a0_1 a0_2 a0_3 a0_4 a0_5 a0_6 a0_7)))
theorem span_May.mono_l : ∀ k, (∀ y0 y1 y2 y3 y4 y5 y6 y7 y8, LeO (span_May.j0 k y0 y1 y2 y3 y4 y5 y6 y7 y8) (span_May.j0 (k + 1) y0 y1 y2 y3 y4 y5 y6 y7 y8)) ∧ (∀ y0 y1 y2 y3 y4 y5 y6 y7 y8, LeO (span_May.j1 k y0 y1 y2 y3 y4 y5 y6 y7 y8) (span_May.j1 (k + 1) y0 y1 y2 y3 y4 y5 y6 y7 y8))
  | 0 => ⟨fun _ _ _ _ _ _ _ _ _ r h => by simp [span_May.j0] at h, fun _ _ _ _ _ _ _ _ _ r h => by simp [span_May.j1] at h⟩
  | k + 1 => by
    obtain ⟨ih0, ih1⟩ := span_May.mono_l k
    refine ⟨?_, ?_⟩
    · intro y0 y1 y2 y3 y4 y5 y6 y7 y8
      unfold span_May.j0
      repeat' first
      | (with_reducible exact ih0 _ _ _ _ _ _ _ _ _)
      | (with_reducible exact ih1 _ _ _ _ _ _ _ _ _)
      | (with_reducible exact span_Name.mono _ _)
      | (with_reducible exact LeO.refl _)
      | (with_reducible exact LeO.none _)
      | (with_reducible refine LeO.ite ?_ ?_)
      | (with_reducible refine LeO.bind ?_ (fun _ => ?_))
      | exact ih0 _ _ _ _ _ _ _ _ _
      | exact ih1 _ _ _ _ _ _ _ _ _
      | exact span_Name.mono _ _
      | exact LeO.none _
      | refine LeO.ite ?_ ?_
      | refine LeO.bind ?_ (fun _ => ?_)
    · intro y0 y1 y2 y3 y4 y5 y6 y7 y8
      unfold span_May.j1
      repeat' first
      | (with_reducible exact ih0 _ _ _ _ _ _ _ _ _)
      | (with_reducible exact ih1 _ _ _ _ _ _ _ _ _)
      | (with_reducible exact span_Name.mono _ _)
      | (with_reducible exact LeO.refl _)
      | (with_reducible exact LeO.none _)
      | (with_reducible refine LeO.ite ?_ ?_)
      | (with_reducible refine LeO.bind ?_ (fun _ => ?_))
      | exact ih0 _ _ _ _ _ _ _ _ _
      | exact ih1 _ _ _ _ _ _ _ _ _
      | exact span_Name.mono _ _
      | exact LeO.none _
      | refine LeO.ite ?_ ?_
      | refine LeO.bind ?_ (fun _ => ?_)
theorem span_May.mono : ∀ a0 a1 a2 a3 a4 a5 a6 a7 k, LeO (span_May.f k a0 a1 a2 a3 a4 a5 a6 a7) (span_May.f (k + 1) a0 a1 a2 a3 a4 a5 a6 a7) := by
  intro a0 a1 a2 a3 a4 a5 a6 a7 k
  obtain ⟨ih0, ih1⟩ := span_May.mono_l k
  unfold span_May.f
  repeat' first
      | (with_reducible exact ih0 _ _ _ _ _ _ _ _ _)
      | (with_reducible exact ih1 _ _ _ _ _ _ _ _ _)
      | (with_reducible exact span_Name.mono _ _)
      | (with_reducible exact LeO.refl _)
      | (with_reducible exact LeO.none _)
      | (with_reducible refine LeO.ite ?_ ?_)
      | (with_reducible refine LeO.bind ?_ (fun _ => ?_))
      | exact ih0 _ _ _ _ _ _ _ _ _
      | exact ih1 _ _ _ _ _ _ _ _ _
      | exact span_Name.mono _ _
      | exact LeO.none _
      | refine LeO.ite ?_ ?_
      | refine LeO.bind ?_ (fun _ => ?_)
set_option maxHeartbeats 8000000 in
set_option maxRecDepth 100000 in
theorem span_May.calls (k : Nat) (a0_0 : Int) (a0_1 : Int) (a0_2 : Int) (a0_3 : Int) (a0_4 : ByteArray) (a0_5 : ByteArray) (a0_6 : Int) (a0_7 : Int) (r : Bool) (w : World) (h : span_May.f k a0_0 a0_1 a0_2 a0_3 a0_4 a0_5 a0_6 a0_7 = some r) :
    Calls Try.prog 38 #[.agg #[.int .u64 a0_0, .int .u64 a0_1, .int .u64 a0_2, .int .u8 a0_3, .string a0_4, .string a0_5, .int .i64 a0_6, .int .i64 a0_7]] w fun e w' => e = .returned (.bool r) ∧ Below w.heap.size w w' := by
  have hu77 := Try.underlying77
  have HB := Aside0.mk (Below.refl w.heap.size w)
  have H : (if a0_0 = 0 then (span_May.j0 k (a0_0 == 0) a0_0 a0_1 a0_2 a0_3 a0_4 a0_5 a0_6 a0_7) else (if a0_1 = 0 then (span_May.j0 k (a0_1 == 0) a0_0 a0_1 a0_2 a0_3 a0_4 a0_5 a0_6 a0_7) else (if a0_2 = a0_1 then (span_May.j0 k (a0_2 == a0_1) a0_0 a0_1 a0_2 a0_3 a0_4 a0_5 a0_6 a0_7) else (span_May.j0 k (decide (a0_3 > 2)) a0_0 a0_1 a0_2 a0_3 a0_4 a0_5 a0_6 a0_7)))) = some r := h
  clear h
  have HC2 := Aside0.mk H
  clear H
  go_enter Try.func38, Try.ntmps38
  go_upto_if 3 with (first | ((with_reducible refine gate_dst (N := 1) rfl ?_); refine box_event ?hg (N := 1) ?hd (cs := #[.int .u64 a0_0, .int .u64 a0_1, .int .u64 a0_2, .int .u8 a0_3, .string a0_4, .string a0_5, .int .i64 a0_6, .int .i64 a0_7]) (t := 77) ?hr ?_; (case hd => rfl); (case hg => rfl); (case hr => first | (go_simp; done) | (go_simp; rfl)); intro gb136 hg w3 hbox hb; have n0_ := Aside0.mk (below_step (by repeat (first | (with_reducible first | exact HB.out | apply below_alloc | apply pw_below_drewN | apply below_drew1) | exact HB.out)) hb); have n1_ := Aside0.mk (hbox); have n2_ := Aside0.mk ((by rw [hg]; exact (below_size (by repeat (first | (with_reducible first | exact HB.out | apply below_alloc | apply pw_below_drewN | apply below_drew1) | exact HB.out))) : w.heap.size ≤ gb136)); have n3_ := Aside0.mk ((by rw [hg]; exact (below_size (by repeat (first | (with_reducible first | exact HB.out | apply below_alloc | apply pw_below_drewN | apply below_drew1) | exact HB.out))) : w.heap.size ≤ gb136)); clear HB; have HB := n0_; have BK136 := n1_; have GW136 := n2_; have GE136 := n3_; clear n0_ n1_ n2_ n3_; clear hb hbox hg; have hcz4_0 : w3.cell? ⟨gb136, 0, none⟩ = some (.int .u64 a0_0) := (blk_cell BK136.out 0).trans rfl; have hcz4_1 : w3.cell? ⟨gb136, 1, none⟩ = some (.int .u64 a0_1) := (blk_cell BK136.out 1).trans rfl; have hcz4_2 : w3.cell? ⟨gb136, 2, none⟩ = some (.int .u64 a0_2) := (blk_cell BK136.out 2).trans rfl; have hcz4_3 : w3.cell? ⟨gb136, 3, none⟩ = some (.int .u8 a0_3) := (blk_cell BK136.out 3).trans rfl; have hcz4_4 : w3.cell? ⟨gb136, 4, none⟩ = some (.string a0_4) := (blk_cell BK136.out 4).trans rfl; have hcz4_5 : w3.cell? ⟨gb136, 5, none⟩ = some (.string a0_5) := (blk_cell BK136.out 5).trans rfl; have hcz4_6 : w3.cell? ⟨gb136, 6, none⟩ = some (.int .i64 a0_6) := (blk_cell BK136.out 6).trans rfl; have hcz4_7 : w3.cell? ⟨gb136, 7, none⟩ = some (.int .i64 a0_7) := (blk_cell BK136.out 7).trans rfl; have hfz4_0 := blk_frozen BK136.out 0; have hfz4_1 := blk_frozen BK136.out 1; have hfz4_2 := blk_frozen BK136.out 2; have hfz4_3 := blk_frozen BK136.out 3; have hfz4_4 := blk_frozen BK136.out 4; have hfz4_5 := blk_frozen BK136.out 5; have hfz4_6 := blk_frozen BK136.out 6; have hfz4_7 := blk_frozen BK136.out 7))
  (try simp only [Act.put, List.setIfInBounds_toArray, List.set_cons_zero, List.set_cons_succ])
  go_cut [3] (fun v3 wc => ∃ (kq : Nat) (x3_1 : Bool), v3 = .bool x3_1 ∧ Aside0 (span_May.j0 kq x3_1 a0_0 a0_1 a0_2 a0_3 a0_4 a0_5 a0_6 a0_7 = some r) ∧ Aside0 (kq ≤ k) ∧ Aside0 (wc.heap[gb136]? = some (.cells #[.int .u64 a0_0, .int .u64 a0_1, .int .u64 a0_2, .int .u8 a0_3, .string a0_4, .string a0_5, .int .i64 a0_6, .int .i64 a0_7] 77 (0, 0))) ∧ Aside0 (Below w.heap.size w wc))
  case first =>
    have H := HC2.out
    clear HC2
    by_cases c5 : a0_0 = 0
    · rw [if_pos c5] at H
      have c5b0 : (a0_0 == 0) = true := beq_iff_eq.mpr c5
      have c5b1 : (a0_0 != 0) = false := bne_eq_false_iff_eq.mpr c5
      clear c5
      (first | rw [c5b0] | (simp only [i64_w, i32_w]; rw [c5b0]) | skip)
      have H' := Aside0.mk H
      clear H
      go_wp2
      go_meet
      case rel => exact ⟨_, ((a0_0 == 0)), (by first | rfl | (simp; done) | (simp [*]; done)), H', ⟨by first | omega | exact Nat.le_refl _⟩, ⟨by (with_reducible repeat (first | refine blk_drewN ?_ _ | refine blk_drew ?_ | refine blk_alloc ?_ _)); exact BK136.out⟩, ⟨by repeat (first | (with_reducible first | exact HB.out | apply below_alloc | apply pw_below_drewN | apply below_drew1 | refine below_set ?_ GE136.out) | exact HB.out)⟩⟩
    · rw [if_neg c5] at H
      have c5b0 : (a0_0 == 0) = false := beq_eq_false_iff_ne.mpr c5
      have c5b1 : (a0_0 != 0) = true := bne_iff_ne.mpr c5
      (first | rw [c5b0] | (simp only [i64_w, i32_w]; rw [c5b0]) | skip)
      by_cases c6 : a0_1 = 0
      · rw [if_pos c6] at H
        have c6b0 : (a0_1 == 0) = true := beq_iff_eq.mpr c6
        have c6b1 : (a0_1 != 0) = false := bne_eq_false_iff_eq.mpr c6
        clear c6
        have H' := Aside0.mk H
        clear H
        have hcz7_0 : w3.cell? ⟨gb136, 0, none⟩ = some (.int .u64 a0_0) := (blk_cell BK136.out 0).trans rfl
        have hcz7_1 : w3.cell? ⟨gb136, 1, none⟩ = some (.int .u64 a0_1) := (blk_cell BK136.out 1).trans rfl
        have hcz7_2 : w3.cell? ⟨gb136, 2, none⟩ = some (.int .u64 a0_2) := (blk_cell BK136.out 2).trans rfl
        have hcz7_3 : w3.cell? ⟨gb136, 3, none⟩ = some (.int .u8 a0_3) := (blk_cell BK136.out 3).trans rfl
        have hcz7_4 : w3.cell? ⟨gb136, 4, none⟩ = some (.string a0_4) := (blk_cell BK136.out 4).trans rfl
        have hcz7_5 : w3.cell? ⟨gb136, 5, none⟩ = some (.string a0_5) := (blk_cell BK136.out 5).trans rfl
        have hcz7_6 : w3.cell? ⟨gb136, 6, none⟩ = some (.int .i64 a0_6) := (blk_cell BK136.out 6).trans rfl
        have hcz7_7 : w3.cell? ⟨gb136, 7, none⟩ = some (.int .i64 a0_7) := (blk_cell BK136.out 7).trans rfl
        have hfz7_0 := blk_frozen BK136.out 0
        have hfz7_1 := blk_frozen BK136.out 1
        have hfz7_2 := blk_frozen BK136.out 2
        have hfz7_3 := blk_frozen BK136.out 3
        have hfz7_4 := blk_frozen BK136.out 4
        have hfz7_5 := blk_frozen BK136.out 5
        have hfz7_6 := blk_frozen BK136.out 6
        have hfz7_7 := blk_frozen BK136.out 7
        go_wp2
        go_meet
        case rel => exact ⟨_, ((a0_1 == 0)), (by first | rfl | (simp; done) | (simp [*]; done)), H', ⟨by first | omega | exact Nat.le_refl _⟩, ⟨by (with_reducible repeat (first | refine blk_drewN ?_ _ | refine blk_drew ?_ | refine blk_alloc ?_ _)); exact BK136.out⟩, ⟨by repeat (first | (with_reducible first | exact HB.out | apply below_alloc | apply pw_below_drewN | apply below_drew1 | refine below_set ?_ GE136.out) | exact HB.out)⟩⟩
      · rw [if_neg c6] at H
        have c6b0 : (a0_1 == 0) = false := beq_eq_false_iff_ne.mpr c6
        have c6b1 : (a0_1 != 0) = true := bne_iff_ne.mpr c6
        by_cases c8 : a0_2 = a0_1
        · rw [if_pos c8] at H
          have c8b0 : (a0_2 == a0_1) = true := beq_iff_eq.mpr c8
          have c8b1 : (a0_2 != a0_1) = false := bne_eq_false_iff_eq.mpr c8
          clear c8
          have H' := Aside0.mk H
          clear H
          have hcz9_0 : w3.cell? ⟨gb136, 0, none⟩ = some (.int .u64 a0_0) := (blk_cell BK136.out 0).trans rfl
          have hcz9_1 : w3.cell? ⟨gb136, 1, none⟩ = some (.int .u64 a0_1) := (blk_cell BK136.out 1).trans rfl
          have hcz9_2 : w3.cell? ⟨gb136, 2, none⟩ = some (.int .u64 a0_2) := (blk_cell BK136.out 2).trans rfl
          have hcz9_3 : w3.cell? ⟨gb136, 3, none⟩ = some (.int .u8 a0_3) := (blk_cell BK136.out 3).trans rfl
          have hcz9_4 : w3.cell? ⟨gb136, 4, none⟩ = some (.string a0_4) := (blk_cell BK136.out 4).trans rfl
          have hcz9_5 : w3.cell? ⟨gb136, 5, none⟩ = some (.string a0_5) := (blk_cell BK136.out 5).trans rfl
          have hcz9_6 : w3.cell? ⟨gb136, 6, none⟩ = some (.int .i64 a0_6) := (blk_cell BK136.out 6).trans rfl
          have hcz9_7 : w3.cell? ⟨gb136, 7, none⟩ = some (.int .i64 a0_7) := (blk_cell BK136.out 7).trans rfl
          have hfz9_0 := blk_frozen BK136.out 0
          have hfz9_1 := blk_frozen BK136.out 1
          have hfz9_2 := blk_frozen BK136.out 2
          have hfz9_3 := blk_frozen BK136.out 3
          have hfz9_4 := blk_frozen BK136.out 4
          have hfz9_5 := blk_frozen BK136.out 5
          have hfz9_6 := blk_frozen BK136.out 6
          have hfz9_7 := blk_frozen BK136.out 7
          go_wp2
          go_meet
          case rel => exact ⟨_, ((a0_2 == a0_1)), (by first | rfl | (simp; done) | (simp [*]; done)), H', ⟨by first | omega | exact Nat.le_refl _⟩, ⟨by (with_reducible repeat (first | refine blk_drewN ?_ _ | refine blk_drew ?_ | refine blk_alloc ?_ _)); exact BK136.out⟩, ⟨by repeat (first | (with_reducible first | exact HB.out | apply below_alloc | apply pw_below_drewN | apply below_drew1 | refine below_set ?_ GE136.out) | exact HB.out)⟩⟩
        · rw [if_neg c8] at H
          have c8b0 : (a0_2 == a0_1) = false := beq_eq_false_iff_ne.mpr c8
          have c8b1 : (a0_2 != a0_1) = true := bne_iff_ne.mpr c8
          have H' := Aside0.mk H
          clear H
          have hcz10_0 : w3.cell? ⟨gb136, 0, none⟩ = some (.int .u64 a0_0) := (blk_cell BK136.out 0).trans rfl
          have hcz10_1 : w3.cell? ⟨gb136, 1, none⟩ = some (.int .u64 a0_1) := (blk_cell BK136.out 1).trans rfl
          have hcz10_2 : w3.cell? ⟨gb136, 2, none⟩ = some (.int .u64 a0_2) := (blk_cell BK136.out 2).trans rfl
          have hcz10_3 : w3.cell? ⟨gb136, 3, none⟩ = some (.int .u8 a0_3) := (blk_cell BK136.out 3).trans rfl
          have hcz10_4 : w3.cell? ⟨gb136, 4, none⟩ = some (.string a0_4) := (blk_cell BK136.out 4).trans rfl
          have hcz10_5 : w3.cell? ⟨gb136, 5, none⟩ = some (.string a0_5) := (blk_cell BK136.out 5).trans rfl
          have hcz10_6 : w3.cell? ⟨gb136, 6, none⟩ = some (.int .i64 a0_6) := (blk_cell BK136.out 6).trans rfl
          have hcz10_7 : w3.cell? ⟨gb136, 7, none⟩ = some (.int .i64 a0_7) := (blk_cell BK136.out 7).trans rfl
          have hfz10_0 := blk_frozen BK136.out 0
          have hfz10_1 := blk_frozen BK136.out 1
          have hfz10_2 := blk_frozen BK136.out 2
          have hfz10_3 := blk_frozen BK136.out 3
          have hfz10_4 := blk_frozen BK136.out 4
          have hfz10_5 := blk_frozen BK136.out 5
          have hfz10_6 := blk_frozen BK136.out 6
          have hfz10_7 := blk_frozen BK136.out 7
          go_wp2
          go_meet
          case rel => exact ⟨_, (decide (a0_3 > 2)), (by first | rfl | (simp; done) | (simp [*]; done)), H', ⟨by first | omega | exact Nat.le_refl _⟩, ⟨by (with_reducible repeat (first | refine blk_drewN ?_ _ | refine blk_drew ?_ | refine blk_alloc ?_ _)); exact BK136.out⟩, ⟨by repeat (first | (with_reducible first | exact HB.out | apply below_alloc | apply pw_below_drewN | apply below_drew1 | refine below_set ?_ GE136.out) | exact HB.out)⟩⟩
  case rest =>
    clear HC2
    try clear p2
    try clear c3
    try clear c5
    try clear c5b0
    try clear c5b1
    try clear c6
    try clear c6b0
    try clear c6b1
    try clear c8
    try clear c8b0
    try clear c8b1
    try clear hcz10_0
    try clear hcz10_1
    try clear hcz10_2
    try clear hcz10_3
    try clear hcz10_4
    try clear hcz10_5
    try clear hcz10_6
    try clear hcz10_7
    try clear hcz4_0
    try clear hcz4_1
    try clear hcz4_2
    try clear hcz4_3
    try clear hcz4_4
    try clear hcz4_5
    try clear hcz4_6
    try clear hcz4_7
    try clear hcz7_0
    try clear hcz7_1
    try clear hcz7_2
    try clear hcz7_3
    try clear hcz7_4
    try clear hcz7_5
    try clear hcz7_6
    try clear hcz7_7
    try clear hcz9_0
    try clear hcz9_1
    try clear hcz9_2
    try clear hcz9_3
    try clear hcz9_4
    try clear hcz9_5
    try clear hcz9_6
    try clear hcz9_7
    try clear hfz10_0
    try clear hfz10_1
    try clear hfz10_2
    try clear hfz10_3
    try clear hfz10_4
    try clear hfz10_5
    try clear hfz10_6
    try clear hfz10_7
    try clear hfz4_0
    try clear hfz4_1
    try clear hfz4_2
    try clear hfz4_3
    try clear hfz4_4
    try clear hfz4_5
    try clear hfz4_6
    try clear hfz4_7
    try clear hfz7_0
    try clear hfz7_1
    try clear hfz7_2
    try clear hfz7_3
    try clear hfz7_4
    try clear hfz7_5
    try clear hfz7_6
    try clear hfz7_7
    try clear hfz9_0
    try clear hfz9_1
    try clear hfz9_2
    try clear hfz9_3
    try clear hfz9_4
    try clear hfz9_5
    try clear hfz9_6
    try clear hfz9_7
    obtain ⟨kq, x3_1, rfl, HA, HJ1, BK136, HB⟩ := hcut
    cases kq with
    | zero => exact absurd HA.out (by simp [span_May.j0])
    | succ kj1 =>
      have H := HA.out
      clear HA
      simp only [span_May.j0] at H
      by_cases c11 : x3_1 = true
      · subst c11
        have H1 : (some false) = some r := by rw [if_pos rfl] at H; exact H
        clear H
        have H := H1
        clear H1
        obtain rfl := Option.some.inj H
        go_wp2
        go_ret
        exact ⟨by first | rfl | (simp [errW_none, errW_some] <;> rfl) | (simp [*, errW_none, errW_some] <;> rfl), by repeat (first | (with_reducible first | exact HB.out | apply below_alloc | apply pw_below_drewN | apply below_drew1 | refine below_set ?_ GE136.out) | exact HB.out)⟩
      · replace c11 := Bool.eq_false_iff.mpr c11
        subst c11
        have H1 : (if a0_6 < 0 then (span_May.j1 kj1 (decide (a0_6 < 0)) a0_0 a0_1 a0_2 a0_3 a0_4 a0_5 a0_6 a0_7) else (if a0_6 ≥ 1125899906842624 then (span_May.j1 kj1 (decide (a0_6 ≥ 1125899906842624)) a0_0 a0_1 a0_2 a0_3 a0_4 a0_5 a0_6 a0_7) else (if a0_7 < 0 then (span_May.j1 kj1 (decide (a0_7 < 0)) a0_0 a0_1 a0_2 a0_3 a0_4 a0_5 a0_6 a0_7) else (span_May.j1 kj1 (decide (a0_7 > 1125899906842624)) a0_0 a0_1 a0_2 a0_3 a0_4 a0_5 a0_6 a0_7)))) = some r := by rw [if_neg (show ¬ (false = true) by decide)] at H; exact H
        clear H
        have H := H1
        clear H1
        have HC12 := Aside0.mk H
        clear H
        have hcz13_0 : wc.cell? ⟨gb136, 0, none⟩ = some (.int .u64 a0_0) := (blk_cell BK136.out 0).trans rfl
        have hcz13_1 : wc.cell? ⟨gb136, 1, none⟩ = some (.int .u64 a0_1) := (blk_cell BK136.out 1).trans rfl
        have hcz13_2 : wc.cell? ⟨gb136, 2, none⟩ = some (.int .u64 a0_2) := (blk_cell BK136.out 2).trans rfl
        have hcz13_3 : wc.cell? ⟨gb136, 3, none⟩ = some (.int .u8 a0_3) := (blk_cell BK136.out 3).trans rfl
        have hcz13_4 : wc.cell? ⟨gb136, 4, none⟩ = some (.string a0_4) := (blk_cell BK136.out 4).trans rfl
        have hcz13_5 : wc.cell? ⟨gb136, 5, none⟩ = some (.string a0_5) := (blk_cell BK136.out 5).trans rfl
        have hcz13_6 : wc.cell? ⟨gb136, 6, none⟩ = some (.int .i64 a0_6) := (blk_cell BK136.out 6).trans rfl
        have hcz13_7 : wc.cell? ⟨gb136, 7, none⟩ = some (.int .i64 a0_7) := (blk_cell BK136.out 7).trans rfl
        have hfz13_0 := blk_frozen BK136.out 0
        have hfz13_1 := blk_frozen BK136.out 1
        have hfz13_2 := blk_frozen BK136.out 2
        have hfz13_3 := blk_frozen BK136.out 3
        have hfz13_4 := blk_frozen BK136.out 4
        have hfz13_5 := blk_frozen BK136.out 5
        have hfz13_6 := blk_frozen BK136.out 6
        have hfz13_7 := blk_frozen BK136.out 7
        go_upto_if 18 with (fail)
        go_cut [18] (fun v18 wc => ∃ (kq : Nat) (x18_11 : Bool), v18 = .bool x18_11 ∧ Aside0 (span_May.j1 kq x18_11 a0_0 a0_1 a0_2 a0_3 a0_4 a0_5 a0_6 a0_7 = some r) ∧ Aside0 (kq ≤ kj1) ∧ Aside0 (wc.heap[gb136]? = some (.cells #[.int .u64 a0_0, .int .u64 a0_1, .int .u64 a0_2, .int .u8 a0_3, .string a0_4, .string a0_5, .int .i64 a0_6, .int .i64 a0_7] 77 (0, 0))) ∧ Aside0 (Below w.heap.size w wc))
        case first =>
          have H := HC12.out
          clear HC12
          by_cases c14 : a0_6 < 0
          · rw [if_pos c14] at H
            have c14b0 : decide (a0_6 < 0) = true := decide_eq_true c14
            clear c14
            (first | rw [c14b0] | (simp only [i64_w, i32_w]; rw [c14b0]) | skip)
            have H' := Aside0.mk H
            clear H
            go_wp2
            go_meet
            case rel => exact ⟨_, (decide (a0_6 < 0)), (by first | rfl | (simp; done) | (simp [*]; done)), H', ⟨by have := HJ1.out; first | omega | exact Nat.le_refl _⟩, ⟨by (with_reducible repeat (first | refine blk_drewN ?_ _ | refine blk_drew ?_ | refine blk_alloc ?_ _)); exact BK136.out⟩, ⟨by repeat (first | (with_reducible first | exact HB.out | apply below_alloc | apply pw_below_drewN | apply below_drew1 | refine below_set ?_ GE136.out) | exact HB.out)⟩⟩
          · rw [if_neg c14] at H
            have c14b0 : decide (a0_6 < 0) = false := decide_eq_false c14
            clear c14
            (first | rw [c14b0] | (simp only [i64_w, i32_w]; rw [c14b0]) | skip)
            by_cases c15 : a0_6 ≥ 1125899906842624
            · rw [if_pos c15] at H
              have c15b0 : decide (1125899906842624 ≤ a0_6) = true := decide_eq_true c15
              clear c15
              have H' := Aside0.mk H
              clear H
              have hcz16_0 : wc.cell? ⟨gb136, 0, none⟩ = some (.int .u64 a0_0) := (blk_cell BK136.out 0).trans rfl
              have hcz16_1 : wc.cell? ⟨gb136, 1, none⟩ = some (.int .u64 a0_1) := (blk_cell BK136.out 1).trans rfl
              have hcz16_2 : wc.cell? ⟨gb136, 2, none⟩ = some (.int .u64 a0_2) := (blk_cell BK136.out 2).trans rfl
              have hcz16_3 : wc.cell? ⟨gb136, 3, none⟩ = some (.int .u8 a0_3) := (blk_cell BK136.out 3).trans rfl
              have hcz16_4 : wc.cell? ⟨gb136, 4, none⟩ = some (.string a0_4) := (blk_cell BK136.out 4).trans rfl
              have hcz16_5 : wc.cell? ⟨gb136, 5, none⟩ = some (.string a0_5) := (blk_cell BK136.out 5).trans rfl
              have hcz16_6 : wc.cell? ⟨gb136, 6, none⟩ = some (.int .i64 a0_6) := (blk_cell BK136.out 6).trans rfl
              have hcz16_7 : wc.cell? ⟨gb136, 7, none⟩ = some (.int .i64 a0_7) := (blk_cell BK136.out 7).trans rfl
              have hfz16_0 := blk_frozen BK136.out 0
              have hfz16_1 := blk_frozen BK136.out 1
              have hfz16_2 := blk_frozen BK136.out 2
              have hfz16_3 := blk_frozen BK136.out 3
              have hfz16_4 := blk_frozen BK136.out 4
              have hfz16_5 := blk_frozen BK136.out 5
              have hfz16_6 := blk_frozen BK136.out 6
              have hfz16_7 := blk_frozen BK136.out 7
              go_wp2
              go_meet
              case rel => exact ⟨_, (decide (a0_6 ≥ 1125899906842624)), (by first | rfl | (simp; done) | (simp [*]; done)), H', ⟨by have := HJ1.out; first | omega | exact Nat.le_refl _⟩, ⟨by (with_reducible repeat (first | refine blk_drewN ?_ _ | refine blk_drew ?_ | refine blk_alloc ?_ _)); exact BK136.out⟩, ⟨by repeat (first | (with_reducible first | exact HB.out | apply below_alloc | apply pw_below_drewN | apply below_drew1 | refine below_set ?_ GE136.out) | exact HB.out)⟩⟩
            · rw [if_neg c15] at H
              have c15b0 : decide (1125899906842624 ≤ a0_6) = false := decide_eq_false c15
              clear c15
              by_cases c17 : a0_7 < 0
              · rw [if_pos c17] at H
                have c17b0 : decide (a0_7 < 0) = true := decide_eq_true c17
                clear c17
                have H' := Aside0.mk H
                clear H
                have hcz18_0 : wc.cell? ⟨gb136, 0, none⟩ = some (.int .u64 a0_0) := (blk_cell BK136.out 0).trans rfl
                have hcz18_1 : wc.cell? ⟨gb136, 1, none⟩ = some (.int .u64 a0_1) := (blk_cell BK136.out 1).trans rfl
                have hcz18_2 : wc.cell? ⟨gb136, 2, none⟩ = some (.int .u64 a0_2) := (blk_cell BK136.out 2).trans rfl
                have hcz18_3 : wc.cell? ⟨gb136, 3, none⟩ = some (.int .u8 a0_3) := (blk_cell BK136.out 3).trans rfl
                have hcz18_4 : wc.cell? ⟨gb136, 4, none⟩ = some (.string a0_4) := (blk_cell BK136.out 4).trans rfl
                have hcz18_5 : wc.cell? ⟨gb136, 5, none⟩ = some (.string a0_5) := (blk_cell BK136.out 5).trans rfl
                have hcz18_6 : wc.cell? ⟨gb136, 6, none⟩ = some (.int .i64 a0_6) := (blk_cell BK136.out 6).trans rfl
                have hcz18_7 : wc.cell? ⟨gb136, 7, none⟩ = some (.int .i64 a0_7) := (blk_cell BK136.out 7).trans rfl
                have hfz18_0 := blk_frozen BK136.out 0
                have hfz18_1 := blk_frozen BK136.out 1
                have hfz18_2 := blk_frozen BK136.out 2
                have hfz18_3 := blk_frozen BK136.out 3
                have hfz18_4 := blk_frozen BK136.out 4
                have hfz18_5 := blk_frozen BK136.out 5
                have hfz18_6 := blk_frozen BK136.out 6
                have hfz18_7 := blk_frozen BK136.out 7
                go_wp2
                go_meet
                case rel => exact ⟨_, (decide (a0_7 < 0)), (by first | rfl | (simp; done) | (simp [*]; done)), H', ⟨by have := HJ1.out; first | omega | exact Nat.le_refl _⟩, ⟨by (with_reducible repeat (first | refine blk_drewN ?_ _ | refine blk_drew ?_ | refine blk_alloc ?_ _)); exact BK136.out⟩, ⟨by repeat (first | (with_reducible first | exact HB.out | apply below_alloc | apply pw_below_drewN | apply below_drew1 | refine below_set ?_ GE136.out) | exact HB.out)⟩⟩
              · rw [if_neg c17] at H
                have c17b0 : decide (a0_7 < 0) = false := decide_eq_false c17
                clear c17
                have H' := Aside0.mk H
                clear H
                have hcz19_0 : wc.cell? ⟨gb136, 0, none⟩ = some (.int .u64 a0_0) := (blk_cell BK136.out 0).trans rfl
                have hcz19_1 : wc.cell? ⟨gb136, 1, none⟩ = some (.int .u64 a0_1) := (blk_cell BK136.out 1).trans rfl
                have hcz19_2 : wc.cell? ⟨gb136, 2, none⟩ = some (.int .u64 a0_2) := (blk_cell BK136.out 2).trans rfl
                have hcz19_3 : wc.cell? ⟨gb136, 3, none⟩ = some (.int .u8 a0_3) := (blk_cell BK136.out 3).trans rfl
                have hcz19_4 : wc.cell? ⟨gb136, 4, none⟩ = some (.string a0_4) := (blk_cell BK136.out 4).trans rfl
                have hcz19_5 : wc.cell? ⟨gb136, 5, none⟩ = some (.string a0_5) := (blk_cell BK136.out 5).trans rfl
                have hcz19_6 : wc.cell? ⟨gb136, 6, none⟩ = some (.int .i64 a0_6) := (blk_cell BK136.out 6).trans rfl
                have hcz19_7 : wc.cell? ⟨gb136, 7, none⟩ = some (.int .i64 a0_7) := (blk_cell BK136.out 7).trans rfl
                have hfz19_0 := blk_frozen BK136.out 0
                have hfz19_1 := blk_frozen BK136.out 1
                have hfz19_2 := blk_frozen BK136.out 2
                have hfz19_3 := blk_frozen BK136.out 3
                have hfz19_4 := blk_frozen BK136.out 4
                have hfz19_5 := blk_frozen BK136.out 5
                have hfz19_6 := blk_frozen BK136.out 6
                have hfz19_7 := blk_frozen BK136.out 7
                go_wp2
                go_meet
                case rel => exact ⟨_, (decide (a0_7 > 1125899906842624)), (by first | rfl | (simp; done) | (simp [*]; done)), H', ⟨by have := HJ1.out; first | omega | exact Nat.le_refl _⟩, ⟨by (with_reducible repeat (first | refine blk_drewN ?_ _ | refine blk_drew ?_ | refine blk_alloc ?_ _)); exact BK136.out⟩, ⟨by repeat (first | (with_reducible first | exact HB.out | apply below_alloc | apply pw_below_drewN | apply below_drew1 | refine below_set ?_ GE136.out) | exact HB.out)⟩⟩
        case rest =>
          clear HC12
          try clear c1
          try clear p2
          try clear c3
          try clear c5
          try clear c5b0
          try clear c5b1
          try clear c6
          try clear c6b0
          try clear c6b1
          try clear c8
          try clear c8b0
          try clear c8b1
          try clear c11
          try clear c14
          try clear c14b0
          try clear c15
          try clear c15b0
          try clear c17
          try clear c17b0
          try clear hcz10_0
          try clear hcz10_1
          try clear hcz10_2
          try clear hcz10_3
          try clear hcz10_4
          try clear hcz10_5
          try clear hcz10_6
          try clear hcz10_7
          try clear hcz13_0
          try clear hcz13_1
          try clear hcz13_2
          try clear hcz13_3
          try clear hcz13_4
          try clear hcz13_5
          try clear hcz13_6
          try clear hcz13_7
          try clear hcz16_0
          try clear hcz16_1
          try clear hcz16_2
          try clear hcz16_3
          try clear hcz16_4
          try clear hcz16_5
          try clear hcz16_6
          try clear hcz16_7
          try clear hcz18_0
          try clear hcz18_1
          try clear hcz18_2
          try clear hcz18_3
          try clear hcz18_4
          try clear hcz18_5
          try clear hcz18_6
          try clear hcz18_7
          try clear hcz19_0
          try clear hcz19_1
          try clear hcz19_2
          try clear hcz19_3
          try clear hcz19_4
          try clear hcz19_5
          try clear hcz19_6
          try clear hcz19_7
          try clear hcz4_0
          try clear hcz4_1
          try clear hcz4_2
          try clear hcz4_3
          try clear hcz4_4
          try clear hcz4_5
          try clear hcz4_6
          try clear hcz4_7
          try clear hcz7_0
          try clear hcz7_1
          try clear hcz7_2
          try clear hcz7_3
          try clear hcz7_4
          try clear hcz7_5
          try clear hcz7_6
          try clear hcz7_7
          try clear hcz9_0
          try clear hcz9_1
          try clear hcz9_2
          try clear hcz9_3
          try clear hcz9_4
          try clear hcz9_5
          try clear hcz9_6
          try clear hcz9_7
          try clear hfz10_0
          try clear hfz10_1
          try clear hfz10_2
          try clear hfz10_3
          try clear hfz10_4
          try clear hfz10_5
          try clear hfz10_6
          try clear hfz10_7
          try clear hfz13_0
          try clear hfz13_1
          try clear hfz13_2
          try clear hfz13_3
          try clear hfz13_4
          try clear hfz13_5
          try clear hfz13_6
          try clear hfz13_7
          try clear hfz16_0
          try clear hfz16_1
          try clear hfz16_2
          try clear hfz16_3
          try clear hfz16_4
          try clear hfz16_5
          try clear hfz16_6
          try clear hfz16_7
          try clear hfz18_0
          try clear hfz18_1
          try clear hfz18_2
          try clear hfz18_3
          try clear hfz18_4
          try clear hfz18_5
          try clear hfz18_6
          try clear hfz18_7
          try clear hfz19_0
          try clear hfz19_1
          try clear hfz19_2
          try clear hfz19_3
          try clear hfz19_4
          try clear hfz19_5
          try clear hfz19_6
          try clear hfz19_7
          try clear hfz4_0
          try clear hfz4_1
          try clear hfz4_2
          try clear hfz4_3
          try clear hfz4_4
          try clear hfz4_5
          try clear hfz4_6
          try clear hfz4_7
          try clear hfz7_0
          try clear hfz7_1
          try clear hfz7_2
          try clear hfz7_3
          try clear hfz7_4
          try clear hfz7_5
          try clear hfz7_6
          try clear hfz7_7
          try clear hfz9_0
          try clear hfz9_1
          try clear hfz9_2
          try clear hfz9_3
          try clear hfz9_4
          try clear hfz9_5
          try clear hfz9_6
          try clear hfz9_7
          try clear p2
          obtain ⟨kq, x18_11, rfl, HA, HJ11, BK136, HB⟩ := hcut
          cases kq with
          | zero => exact absurd HA.out (by simp [span_May.j1])
          | succ kj11 =>
            have H := HA.out
            clear HA
            simp only [span_May.j1] at H
            by_cases c20 : x18_11 = true
            · subst c20
              have H1 : (some false) = some r := by rw [if_pos rfl] at H; exact H
              clear H
              have H := H1
              clear H1
              obtain rfl := Option.some.inj H
              go_wp2
              go_ret
              exact ⟨by first | rfl | (simp [errW_none, errW_some] <;> rfl) | (simp [*, errW_none, errW_some] <;> rfl), by repeat (first | (with_reducible first | exact HB.out | apply below_alloc | apply pw_below_drewN | apply below_drew1 | refine below_set ?_ GE136.out) | exact HB.out)⟩
            · replace c20 := Bool.eq_false_iff.mpr c20
              subst c20
              have H1 : ((span_Name.f kj11 a0_4).bind fun t137 => (if t137 = true then ((span_Name.f kj11 a0_5).bind fun t138 => (some t138)) else (some false))) = some r := by rw [if_neg (show ¬ (false = true) by decide)] at H; exact H
              clear H
              have H := H1
              clear H1
              replace H := Option.bind_eq_some_iff.mp H
              obtain ⟨t137, A210, H⟩ := H
              replace H : (if t137 = true then ((span_Name.f kj11 a0_5).bind fun t138 => (some t138)) else (some false)) = some r := H
              have A21 := Aside0.mk A210
              clear A210
              by_cases c22 : t137 = true
              · subst c22
                have H1 : ((span_Name.f kj11 a0_5).bind fun t138 => (some t138)) = some r := by rw [if_pos rfl] at H; exact H
                clear H
                have H := H1
                clear H1
                replace H := Option.bind_eq_some_iff.mp H
                obtain ⟨t138, A230, H⟩ := H
                replace H : (some t138) = some r := H
                have A23 := Aside0.mk A230
                clear A230
                obtain rfl := Option.some.inj H
                have hcz24_0 : wc.cell? ⟨gb136, 0, none⟩ = some (.int .u64 a0_0) := (blk_cell BK136.out 0).trans rfl
                have hcz24_1 : wc.cell? ⟨gb136, 1, none⟩ = some (.int .u64 a0_1) := (blk_cell BK136.out 1).trans rfl
                have hcz24_2 : wc.cell? ⟨gb136, 2, none⟩ = some (.int .u64 a0_2) := (blk_cell BK136.out 2).trans rfl
                have hcz24_3 : wc.cell? ⟨gb136, 3, none⟩ = some (.int .u8 a0_3) := (blk_cell BK136.out 3).trans rfl
                have hcz24_4 : wc.cell? ⟨gb136, 4, none⟩ = some (.string a0_4) := (blk_cell BK136.out 4).trans rfl
                have hcz24_5 : wc.cell? ⟨gb136, 5, none⟩ = some (.string a0_5) := (blk_cell BK136.out 5).trans rfl
                have hcz24_6 : wc.cell? ⟨gb136, 6, none⟩ = some (.int .i64 a0_6) := (blk_cell BK136.out 6).trans rfl
                have hcz24_7 : wc.cell? ⟨gb136, 7, none⟩ = some (.int .i64 a0_7) := (blk_cell BK136.out 7).trans rfl
                have hfz24_0 := blk_frozen BK136.out 0
                have hfz24_1 := blk_frozen BK136.out 1
                have hfz24_2 := blk_frozen BK136.out 2
                have hfz24_3 := blk_frozen BK136.out 3
                have hfz24_4 := blk_frozen BK136.out 4
                have hfz24_5 := blk_frozen BK136.out 5
                have hfz24_6 := blk_frozen BK136.out 6
                have hfz24_7 := blk_frozen BK136.out 7
                go_wp2_with (first | ((with_reducible refine gate_callee (f := 56) rfl ?_); refine goesL_ (some 33) rfl rfl Try.func56 (by kernel_rfl) rfl #[.string a0_4] rfl (by (try simp only [List.map_toArray, List.map_cons, List.map_nil]); first | done | rfl | (simp only [List.length_drop, List.length_take]; rfl)) ?_; (with_reducible refine (span_Name.calls kj11 a0_4 true _ A21.out).mono ?_); rintro e w' ⟨rfl, ⟨nd, rfl⟩⟩; refine ⟨_, rfl, ?_⟩) | (go_at_call 56; (with_reducible refine (span_Name.calls kj11 a0_5 t138 _ A23.out).mono ?_); rintro e w' ⟨rfl, ⟨nd, rfl⟩⟩))
                go_ret
                exact ⟨by first | rfl | (simp [errW_none, errW_some] <;> rfl) | (simp [*, errW_none, errW_some] <;> rfl), by repeat (first | (with_reducible first | exact HB.out | apply below_alloc | apply pw_below_drewN | apply below_drew1 | refine below_set ?_ GE136.out) | exact HB.out)⟩
              · replace c22 := Bool.eq_false_iff.mpr c22
                subst c22
                have H1 : (some false) = some r := by rw [if_neg (show ¬ (false = true) by decide)] at H; exact H
                clear H
                have H := H1
                clear H1
                obtain rfl := Option.some.inj H
                have hcz25_0 : wc.cell? ⟨gb136, 0, none⟩ = some (.int .u64 a0_0) := (blk_cell BK136.out 0).trans rfl
                have hcz25_1 : wc.cell? ⟨gb136, 1, none⟩ = some (.int .u64 a0_1) := (blk_cell BK136.out 1).trans rfl
                have hcz25_2 : wc.cell? ⟨gb136, 2, none⟩ = some (.int .u64 a0_2) := (blk_cell BK136.out 2).trans rfl
                have hcz25_3 : wc.cell? ⟨gb136, 3, none⟩ = some (.int .u8 a0_3) := (blk_cell BK136.out 3).trans rfl
                have hcz25_4 : wc.cell? ⟨gb136, 4, none⟩ = some (.string a0_4) := (blk_cell BK136.out 4).trans rfl
                have hcz25_5 : wc.cell? ⟨gb136, 5, none⟩ = some (.string a0_5) := (blk_cell BK136.out 5).trans rfl
                have hcz25_6 : wc.cell? ⟨gb136, 6, none⟩ = some (.int .i64 a0_6) := (blk_cell BK136.out 6).trans rfl
                have hcz25_7 : wc.cell? ⟨gb136, 7, none⟩ = some (.int .i64 a0_7) := (blk_cell BK136.out 7).trans rfl
                have hfz25_0 := blk_frozen BK136.out 0
                have hfz25_1 := blk_frozen BK136.out 1
                have hfz25_2 := blk_frozen BK136.out 2
                have hfz25_3 := blk_frozen BK136.out 3
                have hfz25_4 := blk_frozen BK136.out 4
                have hfz25_5 := blk_frozen BK136.out 5
                have hfz25_6 := blk_frozen BK136.out 6
                have hfz25_7 := blk_frozen BK136.out 7
                go_wp2_with (first | ((with_reducible refine gate_callee (f := 56) rfl ?_); refine goesL_ (some 33) rfl rfl Try.func56 (by kernel_rfl) rfl #[.string a0_4] rfl (by (try simp only [List.map_toArray, List.map_cons, List.map_nil]); first | done | rfl | (simp only [List.length_drop, List.length_take]; rfl)) ?_; (with_reducible refine (span_Name.calls kj11 a0_4 false _ A21.out).mono ?_); rintro e w' ⟨rfl, ⟨nd, rfl⟩⟩; refine ⟨_, rfl, ?_⟩))
                go_ret
                exact ⟨by first | rfl | (simp [errW_none, errW_some] <;> rfl) | (simp [*, errW_none, errW_some] <;> rfl), by repeat (first | (with_reducible first | exact HB.out | apply below_alloc | apply pw_below_drewN | apply below_drew1 | refine below_set ?_ GE136.out) | exact HB.out)⟩

-- NOT PRINTED: function 64 (wire_numbers)

/-! ### slices_IndexFunc_byte_byte: function 73 -/
/-- Where the first one stands that is such; -1. -/
def slices_IndexFunc_byte_byte_idx (p : Int → Bool) (l : List Int) : Int := if l.any p = true then (l.findIdx p : Int) else -1
theorem slices_IndexFunc_byte_byte_hit (p : Int → Bool) (l : List Int) (k : Nat) (hk : k < l.length) (hp : p l[k] = true) (hn : ∀ j (h : j < l.length), j < k → p l[j] = false) : slices_IndexFunc_byte_byte_idx p l = (k : Int) := by
  unfold slices_IndexFunc_byte_byte_idx
  rw [if_pos (List.any_eq_true.2 ⟨_, List.getElem_mem hk, hp⟩)]
  congr 1
  rw [List.findIdx_eq hk]
  exact ⟨hp, fun j hj => by simpa using hn j (by omega) hj⟩
theorem slices_IndexFunc_byte_byte_miss (p : Int → Bool) (l : List Int) (hn : ∀ j (h : j < l.length), p l[j] = false) : slices_IndexFunc_byte_byte_idx p l = -1 := by
  unfold slices_IndexFunc_byte_byte_idx
  rw [if_neg]
  intro h
  obtain ⟨x, hx, hp⟩ := List.any_eq_true.1 h
  obtain ⟨j, hj, rfl⟩ := List.getElem_of_mem hx
  rw [hn j hj] at hp
  exact absurd hp (by decide)
set_option maxHeartbeats 8000000 in
set_option maxRecDepth 100000 in
theorem slices_IndexFunc_byte_byte.calls (A0 : Option Addr) (c0 : Nat) (l0 : List Int) (p : Int → Bool) (g : Nat) (lb : Array Value) (eg : ∀ args w, (callFunc g args).run Try.prog w = .ok (.enter g args) w) (w : World) (hr0 : Kd.C (Kd.int .u8) w A0 l0.length l0)
    (hp : ∀ (W : World) (x : Int), x ∈ l0 → Below w.heap.size w W → Calls Try.prog g (#[(fun x : Int => (.int .u8 x : Value)) x] ++ lb) W fun e w' => e = .returned (.bool (p x)) ∧ Below w.heap.size w w') :
    Calls Try.prog 73 #[.slice A0 l0.length c0, .func (.func g) #[] lb] w fun e w' => e = .returned (.int .i64 (slices_IndexFunc_byte_byte_idx p l0)) ∧ Below w.heap.size w w' := by
  have HR0 := Aside0.mk hr0
  have HP := Aside0.mk hp
  have HB := Aside0.mk (Below.refl w.heap.size w)
  have hmax : l0.length ≤ 9223372036854775807 := Kd.C_max hr0
  clear hr0 hp
  go_enter Try.func73, Try.ntmps73
  go_wp2
  go_loopg [5, 8] l0.length (fun gg _ s8 wr => ∃ k : Nat, k ≤ l0.length ∧ l0.length - k ≤ gg ∧ s8 = .int .i64 k ∧ Aside0 (Below w.heap.size w wr) ∧ Aside0 (∀ j (h : j < l0.length), j < k → p l0[j] = false))
  case atStart => exact ⟨0, Nat.zero_le _, by omega, rfl, HB, ⟨fun j _ hj => absurd hj (Nat.not_lt_zero _)⟩⟩
  case round =>
    obtain ⟨k, hk, hg, rfl, HBr, HN⟩ := hrel
    by_cases hlt : k < l0.length
    · have hltz : (k : Int) < (l0.length : Int) := by omega
      obtain ⟨ad, e, hx0⟩ := Kd.at_int HR0.out (k : Int) (by omega) (by omega)
      cases e
      replace hx0 := (HBr.out.cell (World.block_lt_of_cell? w _ hx0)).trans hx0; simp only [Int.toNat_natCast] at hx0
      skip
      have hcall := HP.out wr l0[k] (List.getElem_mem hlt) HBr.out
      have hy : rd l0 (k : Int) = l0[k] := by first | (simp [rd, rdOf, List.getD_eq_getElem?_getD, List.getElem?_eq_getElem hlt]; done) | (show l0.getD _ _ = _; simp [List.getD_eq_getElem?_getD, List.getElem?_eq_getElem hlt])
      have HY := Aside0.mk hy
      generalize hz : l0[k] = y at hcall hy
      rw [hy] at hx0
      have HZ := Aside0.mk hz
      clear hy hz
      cases hq : p y with
      | true =>
        rw [hq] at hcall
        go_wp2_with (go_at_fn g; refine hcall.mono ?_; rintro e w' ⟨rfl, hb'⟩)
        go_ret
        refine ⟨?_, hb'⟩
        rw [slices_IndexFunc_byte_byte_hit p l0 k hlt (by rw [HZ.out]; exact hq) HN.out]
        rfl
      | false =>
        rw [hq] at hcall
        go_wp2_with (go_at_fn g; refine hcall.mono ?_; rintro e w' ⟨rfl, hb'⟩)
        go_roundg (l0.length - (k + 1))
        case measure => omega
        case rel =>
          refine ⟨k + 1, by omega, by omega, by go_num, ⟨hb'⟩, ⟨fun j h hj => ?_⟩⟩
          by_cases e : j = k
          · subst e
            rw [HZ.out]; exact hq
          · exact HN.out j h (by omega)
    · have hltz : ¬ (k : Int) < (l0.length : Int) := by omega
      have HK := Aside0.mk (show k = l0.length by omega)
      go_wp2
      go_ret
      refine ⟨?_, HBr.out⟩
      rw [slices_IndexFunc_byte_byte_miss p l0 (fun j h => HN.out j h (by rw [HK.out]; exact h))]
      rfl


/-! ### slices_ContainsFunc_byte_byte: function 70 -/
/-- At the one predicate that layer 2 hands over. -/
def slices_ContainsFunc_byte_byte.f (l0 : List Int) (a1 : Nat) : Option Bool := if a1 = 71 then some (l0.any fun c => c != 0) else none
theorem slices_ContainsFunc_byte_byte_pred (w W : World) (x : Int) (hb : Below w.heap.size w W) : Calls Try.prog 71 (#[.int .u8 x] ++ #[]) W fun e w' => e = .returned (.bool (x != 0)) ∧ Below w.heap.size w w' := by
  have HB := Aside0.mk hb
  clear hb
  show Calls Try.prog 71 #[.int .u8 x] W _
  go_enter Try.func71, Try.ntmps71
  go_wp2
  go_ret
  exact ⟨rfl, HB.out⟩
set_option maxHeartbeats 8000000 in
set_option maxRecDepth 100000 in
theorem slices_ContainsFunc_byte_byte.calls (A0 : Option Addr) (c0 : Nat) (l0 : List Int) (a1 : Nat) (r : Bool) (w : World) (hr0 : Kd.C (Kd.int .u8) w A0 l0.length l0) (hc0 : l0.length ≤ c0) (h : slices_ContainsFunc_byte_byte.f l0 a1 = some r) :
    Calls Try.prog 70 #[.slice A0 l0.length c0, .func (.func a1) #[] #[]] w fun e w' => e = .returned (.bool r) ∧ Below w.heap.size w w' := by
  unfold slices_ContainsFunc_byte_byte.f at h
  by_cases ha : a1 = 71
  · rw [if_pos ha] at h
    subst ha
    obtain rfl := Option.some.inj h
    have hany : decide (0 ≤ slices_IndexFunc_byte_byte_idx (fun c => c != 0) l0) = l0.any (fun c => c != 0) := by
      unfold slices_IndexFunc_byte_byte_idx
      by_cases h : l0.any (fun c => c != 0) = true
      · rw [if_pos h, h]; exact decide_eq_true (by omega)
      · rw [if_neg h, Bool.eq_false_iff.2 h]; rfl
    have HA := Aside0.mk hany
    have hcall := slices_IndexFunc_byte_byte.calls A0 c0 l0 (fun c => c != 0) 71 #[] (fun args w => enters_ (P := Try.prog) Try.func71 (by kernel_rfl) rfl args w) w hr0 (fun W x _ hb => slices_ContainsFunc_byte_byte_pred w W x hb)
    clear hany hr0 h
    go_enter Try.func70, Try.ntmps70
    go_wp2_with (go_at_call 73; refine hcall.mono ?_; rintro e w' ⟨rfl, hb'⟩)
    go_ret
    exact ⟨by first | rfl | (rw [← HA.out]; rfl), hb'⟩
  · rw [if_neg ha] at h
    exact absurd h (by simp)


end Go.Proofs.Ytdpodjgggicaoaa.ST
