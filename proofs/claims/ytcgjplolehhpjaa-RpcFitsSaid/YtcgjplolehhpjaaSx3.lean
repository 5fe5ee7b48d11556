-- WRITTEN FOR THIS CLAIM by wip/tools/mp.py, a program of this project that drives the kit's print; the functions that the print does not take are this project's own texts.
import Derived.Test.YtcgjplolehhpjaaSx0
import Derived.Test.YtcgjplolehhpjaaSx2
namespace Go.Proofs.Ytcgjplolehhpjaa.S
open Go.RowKit Go.Proofs.YtcgjplolehhpjaaW.PrintWords Go.Proofs.YtcgjplolehhpjaaW.PrintLast Go.Proofs.YtcgjplolehhpjaaW.PrintMore
attribute [local go_sem] max2_int min2_int max_two min_two max_three min_three max_four min_four   -- for this text's walks alone
set_option linter.unusedVariables false
set_option linter.unusedSimpArgs false

/-! ### span_May: function 47 -/
mutual
def span_May.j0 : Nat → Bool → Int → Int → Int → Int → ByteArray → ByteArray → Int → Int → Option (Bool)
  | 0, _, _, _, _, _, _, _, _, _ => none
  | k + 1, x3, x105000, x105001, x105002, x105003, x105004, x105005, x105006, x105007 => if x3 = true then (some false) else (if x105006 < 0 then (span_May.j1 k (decide (x105006 < 0)) x105000 x105001 x105002 x105003 x105004 x105005 x105006 x105007) else (if x105006 ≥ 1125899906842624 then (span_May.j1 k (decide (x105006 ≥ 1125899906842624)) x105000 x105001 x105002 x105003 x105004 x105005 x105006 x105007) else (if x105007 < 0 then (span_May.j1 k (decide (x105007 < 0)) x105000 x105001 x105002 x105003 x105004 x105005 x105006 x105007) else (span_May.j1 k (decide (x105007 > 1125899906842624)) x105000 x105001 x105002 x105003 x105004 x105005 x105006 x105007))))
def span_May.j1 : Nat → Bool → Int → Int → Int → Int → ByteArray → ByteArray → Int → Int → Option (Bool)
  | 0, _, _, _, _, _, _, _, _, _ => none
  | k + 1, x18, x105000, x105001, x105002, x105003, x105004, x105005, x105006, x105007 => if x18 = true then (some false) else ((span_Name.f k x105004).bind fun t105 => (if t105 = true then ((span_Name.f k x105005).bind fun t106 => (some t106)) else (some false)))
end
def span_May.f (k : Nat) (a0_0 : Int) (a0_1 : Int) (a0_2 : Int) (a0_3 : Int) (a0_4 : ByteArray) (a0_5 : ByteArray) (a0_6 : Int) (a0_7 : Int) : Option (Bool) := if a0_0 = 0 then (span_May.j0 k (a0_0 == 0) a0_0 a0_1 a0_2 a0_3 a0_4 a0_5 a0_6 a0_7) else (if a0_1 = 0 then (span_May.j0 k (a0_1 == 0) a0_0 a0_1 a0_2 a0_3 a0_4 a0_5 a0_6 a0_7) else (if a0_2 = a0_1 then (span_May.j0 k (a0_2 == a0_1) a0_0 a0_1 a0_2 a0_3 a0_4 a0_5 a0_6 a0_7) else (span_May.j0 k (decide (a0_3 > 2)) a0_0 a0_1 a0_2 a0_3 a0_4 a0_5 a0_6 a0_7)))
theorem span_May.mono_l : ∀ k, (∀ y0 y1 y2 y3 y4 y5 y6 y7 y8, LeO (span_May.j0 k y0 y1 y2 y3 y4 y5 y6 y7 y8) (span_May.j0 (k + 1) y0 y1 y2 y3 y4 y5 y6 y7 y8)) ∧ (∀ y0 y1 y2 y3 y4 y5 y6 y7 y8, LeO (span_May.j1 k y0 y1 y2 y3 y4 y5 y6 y7 y8) (span_May.j1 (k + 1) y0 y1 y2 y3 y4 y5 y6 y7 y8))
  | 0 => ⟨fun _ _ _ _ _ _ _ _ _ r h => by simp [span_May.j0] at h, fun _ _ _ _ _ _ _ _ _ r h => by simp [span_May.j1] at h⟩
  | k + 1 => by
    obtain ⟨ih0, ih1⟩ := span_May.mono_l k
    refine ⟨?_, ?_⟩
    · intro y0 y1 y2 y3 y4 y5 y6 y7 y8
      unfold span_May.j0
      repeat' first
      | (with_reducible exact ih0 _ _ _ _ _ _ _ _ _)
      | (with_reducible exact ih1 _ _ _ _ _ _ _ _ _)
      | (with_reducible exact span_Name.mono _ _)
      | (with_reducible exact LeO.refl _)
      | (with_reducible exact LeO.none _)
      | (with_reducible refine LeO.ite ?_ ?_)
      | (with_reducible refine LeO.bind ?_ (fun _ => ?_))
      | exact ih0 _ _ _ _ _ _ _ _ _
      | exact ih1 _ _ _ _ _ _ _ _ _
      | exact span_Name.mono _ _
      | exact LeO.none _
      | refine LeO.ite ?_ ?_
      | refine LeO.bind ?_ (fun _ => ?_)
    · intro y0 y1 y2 y3 y4 y5 y6 y7 y8
      unfold span_May.j1
      repeat' first
      | (with_reducible exact ih0 _ _ _ _ _ _ _ _ _)
      | (with_reducible exact ih1 _ _ _ _ _ _ _ _ _)
      | (with_reducible exact span_Name.mono _ _)
      | (with_reducible exact LeO.refl _)
      | (with_reducible exact LeO.none _)
      | (with_reducible refine LeO.ite ?_ ?_)
      | (with_reducible refine LeO.bind ?_ (fun _ => ?_))
      | exact ih0 _ _ _ _ _ _ _ _ _
      | exact ih1 _ _ _ _ _ _ _ _ _
      | exact span_Name.mono _ _
      | exact LeO.none _
      | refine LeO.ite ?_ ?_
      | refine LeO.bind ?_ (fun _ => ?_)
theorem span_May.mono : ∀ a0 a1 a2 a3 a4 a5 a6 a7 k, LeO (span_May.f k a0 a1 a2 a3 a4 a5 a6 a7) (span_May.f (k + 1) a0 a1 a2 a3 a4 a5 a6 a7) := by
  intro a0 a1 a2 a3 a4 a5 a6 a7 k
  obtain ⟨ih0, ih1⟩ := span_May.mono_l k
  unfold span_May.f
  repeat' first
      | (with_reducible exact ih0 _ _ _ _ _ _ _ _ _)
      | (with_reducible exact ih1 _ _ _ _ _ _ _ _ _)
      | (with_reducible exact span_Name.mono _ _)
      | (with_reducible exact LeO.refl _)
      | (with_reducible exact LeO.none _)
      | (with_reducible refine LeO.ite ?_ ?_)
      | (with_reducible refine LeO.bind ?_ (fun _ => ?_))
      | exact ih0 _ _ _ _ _ _ _ _ _
      | exact ih1 _ _ _ _ _ _ _ _ _
      | exact span_Name.mono _ _
      | exact LeO.none _
      | refine LeO.ite ?_ ?_
      | refine LeO.bind ?_ (fun _ => ?_)
set_option maxHeartbeats 8000000 in
set_option maxRecDepth 100000 in
theorem span_May.calls (k : Nat) (a0_0 : Int) (a0_1 : Int) (a0_2 : Int) (a0_3 : Int) (a0_4 : ByteArray) (a0_5 : ByteArray) (a0_6 : Int) (a0_7 : Int) (r : Bool) (w : World) (h : span_May.f k a0_0 a0_1 a0_2 a0_3 a0_4 a0_5 a0_6 a0_7 = some r) :
    Calls Try.prog 47 #[.agg #[.int .u64 a0_0, .int .u64 a0_1, .int .u64 a0_2, .int .u8 a0_3, .string a0_4, .string a0_5, .int .i64 a0_6, .int .i64 a0_7]] w fun e w' => e = .returned (.bool r) ∧ Below w.heap.size w w' := by
  have hu37 := Try.underlying37
  have HB := Aside0.mk (Below.refl w.heap.size w)
  have H : (if a0_0 = 0 then (span_May.j0 k (a0_0 == 0) a0_0 a0_1 a0_2 a0_3 a0_4 a0_5 a0_6 a0_7) else (if a0_1 = 0 then (span_May.j0 k (a0_1 == 0) a0_0 a0_1 a0_2 a0_3 a0_4 a0_5 a0_6 a0_7) else (if a0_2 = a0_1 then (span_May.j0 k (a0_2 == a0_1) a0_0 a0_1 a0_2 a0_3 a0_4 a0_5 a0_6 a0_7) else (span_May.j0 k (decide (a0_3 > 2)) a0_0 a0_1 a0_2 a0_3 a0_4 a0_5 a0_6 a0_7)))) = some r := h
  clear h
  have HC2 := Aside0.mk H
  clear H
  go_enter Try.func47, Try.ntmps47
  go_upto_if 3 with (first | ((with_reducible refine gate_dst (N := 1) rfl ?_); refine box_event ?hg (N := 1) ?hd (cs := #[.int .u64 a0_0, .int .u64 a0_1, .int .u64 a0_2, .int .u8 a0_3, .string a0_4, .string a0_5, .int .i64 a0_6, .int .i64 a0_7]) (t := 37) ?hr ?_; (case hd => rfl); (case hg => rfl); (case hr => first | (go_simp; done) | (go_simp; rfl)); intro gb104 hg w3 hbox hb; have n0_ := Aside0.mk (below_step (by repeat (first | (with_reducible first | exact HB.out | apply below_alloc | apply pw_below_drewN | apply below_drew1) | exact HB.out)) hb); have n1_ := Aside0.mk (hbox); have n2_ := Aside0.mk ((by rw [hg]; exact (below_size (by repeat (first | (with_reducible first | exact HB.out | apply below_alloc | apply pw_below_drewN | apply below_drew1) | exact HB.out))) : w.heap.size ≤ gb104)); have n3_ := Aside0.mk ((by rw [hg]; exact (below_size (by repeat (first | (with_reducible first | exact HB.out | apply below_alloc | apply pw_below_drewN | apply below_drew1) | exact HB.out))) : w.heap.size ≤ gb104)); clear HB; have HB := n0_; have BK104 := n1_; have GW104 := n2_; have GE104 := n3_; clear n0_ n1_ n2_ n3_; clear hb hbox hg; have hcz4_0 : w3.cell? ⟨gb104, 0, none⟩ = some (.int .u64 a0_0) := (blk_cell BK104.out 0).trans rfl; have hcz4_1 : w3.cell? ⟨gb104, 1, none⟩ = some (.int .u64 a0_1) := (blk_cell BK104.out 1).trans rfl; have hcz4_2 : w3.cell? ⟨gb104, 2, none⟩ = some (.int .u64 a0_2) := (blk_cell BK104.out 2).trans rfl; have hcz4_3 : w3.cell? ⟨gb104, 3, none⟩ = some (.int .u8 a0_3) := (blk_cell BK104.out 3).trans rfl; have hcz4_4 : w3.cell? ⟨gb104, 4, none⟩ = some (.string a0_4) := (blk_cell BK104.out 4).trans rfl; have hcz4_5 : w3.cell? ⟨gb104, 5, none⟩ = some (.string a0_5) := (blk_cell BK104.out 5).trans rfl; have hcz4_6 : w3.cell? ⟨gb104, 6, none⟩ = some (.int .i64 a0_6) := (blk_cell BK104.out 6).trans rfl; have hcz4_7 : w3.cell? ⟨gb104, 7, none⟩ = some (.int .i64 a0_7) := (blk_cell BK104.out 7).trans rfl; have hfz4_0 := blk_frozen BK104.out 0; have hfz4_1 := blk_frozen BK104.out 1; have hfz4_2 := blk_frozen BK104.out 2; have hfz4_3 := blk_frozen BK104.out 3; have hfz4_4 := blk_frozen BK104.out 4; have hfz4_5 := blk_frozen BK104.out 5; have hfz4_6 := blk_frozen BK104.out 6; have hfz4_7 := blk_frozen BK104.out 7))
  (try simp only [Act.put, List.setIfInBounds_toArray, List.set_cons_zero, List.set_cons_succ])
  go_cut [3] (fun v3 wc => ∃ (kq : Nat) (x3_1 : Bool), v3 = .bool x3_1 ∧ Aside0 (span_May.j0 kq x3_1 a0_0 a0_1 a0_2 a0_3 a0_4 a0_5 a0_6 a0_7 = some r) ∧ Aside0 (kq ≤ k) ∧ Aside0 (wc.heap[gb104]? = some (.cells #[.int .u64 a0_0, .int .u64 a0_1, .int .u64 a0_2, .int .u8 a0_3, .string a0_4, .string a0_5, .int .i64 a0_6, .int .i64 a0_7] 37 (0, 0))) ∧ Aside0 (Below w.heap.size w wc))
  case first =>
    have H := HC2.out
    clear HC2
    by_cases c5 : a0_0 = 0
    · rw [if_pos c5] at H
      have c5b0 : (a0_0 == 0) = true := beq_iff_eq.mpr c5
      have c5b1 : (a0_0 != 0) = false := bne_eq_false_iff_eq.mpr c5
      clear c5
      (first | rw [c5b0] | (simp only [i64_w, i32_w]; rw [c5b0]) | skip)
      have H' := Aside0.mk H
      clear H
      go_wp2
      go_meet
      case rel => exact ⟨_, ((a0_0 == 0)), (by first | rfl | (simp; done) | (simp [*]; done)), H', ⟨by first | omega | exact Nat.le_refl _⟩, ⟨by (with_reducible repeat (first | refine blk_drewN ?_ _ | refine blk_drew ?_ | refine blk_alloc ?_ _)); exact BK104.out⟩, ⟨by repeat (first | (with_reducible first | exact HB.out | apply below_alloc | apply pw_below_drewN | apply below_drew1 | refine below_set ?_ GE104.out) | exact HB.out)⟩⟩
    · rw [if_neg c5] at H
      have c5b0 : (a0_0 == 0) = false := beq_eq_false_iff_ne.mpr c5
      have c5b1 : (a0_0 != 0) = true := bne_iff_ne.mpr c5
      (first | rw [c5b0] | (simp only [i64_w, i32_w]; rw [c5b0]) | skip)
      by_cases c6 : a0_1 = 0
      · rw [if_pos c6] at H
        have c6b0 : (a0_1 == 0) = true := beq_iff_eq.mpr c6
        have c6b1 : (a0_1 != 0) = false := bne_eq_false_iff_eq.mpr c6
        clear c6
        have H' := Aside0.mk H
        clear H
        have hcz7_0 : w3.cell? ⟨gb104, 0, none⟩ = some (.int .u64 a0_0) := (blk_cell BK104.out 0).trans rfl
        have hcz7_1 : w3.cell? ⟨gb104, 1, none⟩ = some (.int .u64 a0_1) := (blk_cell BK104.out 1).trans rfl
        have hcz7_2 : w3.cell? ⟨gb104, 2, none⟩ = some (.int .u64 a0_2) := (blk_cell BK104.out 2).trans rfl
        have hcz7_3 : w3.cell? ⟨gb104, 3, none⟩ = some (.int .u8 a0_3) := (blk_cell BK104.out 3).trans rfl
        have hcz7_4 : w3.cell? ⟨gb104, 4, none⟩ = some (.string a0_4) := (blk_cell BK104.out 4).trans rfl
        have hcz7_5 : w3.cell? ⟨gb104, 5, none⟩ = some (.string a0_5) := (blk_cell BK104.out 5).trans rfl
        have hcz7_6 : w3.cell? ⟨gb104, 6, none⟩ = some (.int .i64 a0_6) := (blk_cell BK104.out 6).trans rfl
        have hcz7_7 : w3.cell? ⟨gb104, 7, none⟩ = some (.int .i64 a0_7) := (blk_cell BK104.out 7).trans rfl
        have hfz7_0 := blk_frozen BK104.out 0
        have hfz7_1 := blk_frozen BK104.out 1
        have hfz7_2 := blk_frozen BK104.out 2
        have hfz7_3 := blk_frozen BK104.out 3
        have hfz7_4 := blk_frozen BK104.out 4
        have hfz7_5 := blk_frozen BK104.out 5
        have hfz7_6 := blk_frozen BK104.out 6
        have hfz7_7 := blk_frozen BK104.out 7
        go_wp2
        go_meet
        case rel => exact ⟨_, ((a0_1 == 0)), (by first | rfl | (simp; done) | (simp [*]; done)), H', ⟨by first | omega | exact Nat.le_refl _⟩, ⟨by (with_reducible repeat (first | refine blk_drewN ?_ _ | refine blk_drew ?_ | refine blk_alloc ?_ _)); exact BK104.out⟩, ⟨by repeat (first | (with_reducible first | exact HB.out | apply below_alloc | apply pw_below_drewN | apply below_drew1 | refine below_set ?_ GE104.out) | exact HB.out)⟩⟩
      · rw [if_neg c6] at H
        have c6b0 : (a0_1 == 0) = false := beq_eq_false_iff_ne.mpr c6
        have c6b1 : (a0_1 != 0) = true := bne_iff_ne.mpr c6
        by_cases c8 : a0_2 = a0_1
        · rw [if_pos c8] at H
          have c8b0 : (a0_2 == a0_1) = true := beq_iff_eq.mpr c8
          have c8b1 : (a0_2 != a0_1) = false := bne_eq_false_iff_eq.mpr c8
          clear c8
          have H' := Aside0.mk H
          clear H
          have hcz9_0 : w3.cell? ⟨gb104, 0, none⟩ = some (.int .u64 a0_0) := (blk_cell BK104.out 0).trans rfl
          have hcz9_1 : w3.cell? ⟨gb104, 1, none⟩ = some (.int .u64 a0_1) := (blk_cell BK104.out 1).trans rfl
          have hcz9_2 : w3.cell? ⟨gb104, 2, none⟩ = some (.int .u64 a0_2) := (blk_cell BK104.out 2).trans rfl
          have hcz9_3 : w3.cell? ⟨gb104, 3, none⟩ = some (.int .u8 a0_3) := (blk_cell BK104.out 3).trans rfl
          have hcz9_4 : w3.cell? ⟨gb104, 4, none⟩ = some (.string a0_4) := (blk_cell BK104.out 4).trans rfl
          have hcz9_5 : w3.cell? ⟨gb104, 5, none⟩ = some (.string a0_5) := (blk_cell BK104.out 5).trans rfl
          have hcz9_6 : w3.cell? ⟨gb104, 6, none⟩ = some (.int .i64 a0_6) := (blk_cell BK104.out 6).trans rfl
          have hcz9_7 : w3.cell? ⟨gb104, 7, none⟩ = some (.int .i64 a0_7) := (blk_cell BK104.out 7).trans rfl
          have hfz9_0 := blk_frozen BK104.out 0
          have hfz9_1 := blk_frozen BK104.out 1
          have hfz9_2 := blk_frozen BK104.out 2
          have hfz9_3 := blk_frozen BK104.out 3
          have hfz9_4 := blk_frozen BK104.out 4
          have hfz9_5 := blk_frozen BK104.out 5
          have hfz9_6 := blk_frozen BK104.out 6
          have hfz9_7 := blk_frozen BK104.out 7
          go_wp2
          go_meet
          case rel => exact ⟨_, ((a0_2 == a0_1)), (by first | rfl | (simp; done) | (simp [*]; done)), H', ⟨by first | omega | exact Nat.le_refl _⟩, ⟨by (with_reducible repeat (first | refine blk_drewN ?_ _ | refine blk_drew ?_ | refine blk_alloc ?_ _)); exact BK104.out⟩, ⟨by repeat (first | (with_reducible first | exact HB.out | apply below_alloc | apply pw_below_drewN | apply below_drew1 | refine below_set ?_ GE104.out) | exact HB.out)⟩⟩
        · rw [if_neg c8] at H
          have c8b0 : (a0_2 == a0_1) = false := beq_eq_false_iff_ne.mpr c8
          have c8b1 : (a0_2 != a0_1) = true := bne_iff_ne.mpr c8
          have H' := Aside0.mk H
          clear H
          have hcz10_0 : w3.cell? ⟨gb104, 0, none⟩ = some (.int .u64 a0_0) := (blk_cell BK104.out 0).trans rfl
          have hcz10_1 : w3.cell? ⟨gb104, 1, none⟩ = some (.int .u64 a0_1) := (blk_cell BK104.out 1).trans rfl
          have hcz10_2 : w3.cell? ⟨gb104, 2, none⟩ = some (.int .u64 a0_2) := (blk_cell BK104.out 2).trans rfl
          have hcz10_3 : w3.cell? ⟨gb104, 3, none⟩ = some (.int .u8 a0_3) := (blk_cell BK104.out 3).trans rfl
          have hcz10_4 : w3.cell? ⟨gb104, 4, none⟩ = some (.string a0_4) := (blk_cell BK104.out 4).trans rfl
          have hcz10_5 : w3.cell? ⟨gb104, 5, none⟩ = some (.string a0_5) := (blk_cell BK104.out 5).trans rfl
          have hcz10_6 : w3.cell? ⟨gb104, 6, none⟩ = some (.int .i64 a0_6) := (blk_cell BK104.out 6).trans rfl
          have hcz10_7 : w3.cell? ⟨gb104, 7, none⟩ = some (.int .i64 a0_7) := (blk_cell BK104.out 7).trans rfl
          have hfz10_0 := blk_frozen BK104.out 0
          have hfz10_1 := blk_frozen BK104.out 1
          have hfz10_2 := blk_frozen BK104.out 2
          have hfz10_3 := blk_frozen BK104.out 3
          have hfz10_4 := blk_frozen BK104.out 4
          have hfz10_5 := blk_frozen BK104.out 5
          have hfz10_6 := blk_frozen BK104.out 6
          have hfz10_7 := blk_frozen BK104.out 7
          go_wp2
          go_meet
          case rel => exact ⟨_, (decide (a0_3 > 2)), (by first | rfl | (simp; done) | (simp [*]; done)), H', ⟨by first | omega | exact Nat.le_refl _⟩, ⟨by (with_reducible repeat (first | refine blk_drewN ?_ _ | refine blk_drew ?_ | refine blk_alloc ?_ _)); exact BK104.out⟩, ⟨by repeat (first | (with_reducible first | exact HB.out | apply below_alloc | apply pw_below_drewN | apply below_drew1 | refine below_set ?_ GE104.out) | exact HB.out)⟩⟩
  case rest =>
    clear HC2
    try clear p2
    try clear c4
    try clear c5
    try clear c5b0
    try clear c5b1
    try clear c6
    try clear c6b0
    try clear c6b1
    try clear c8
    try clear c8b0
    try clear c8b1
    try clear hcz10_0
    try clear hcz10_1
    try clear hcz10_2
    try clear hcz10_3
    try clear hcz10_4
    try clear hcz10_5
    try clear hcz10_6
    try clear hcz10_7
    try clear hcz4_0
    try clear hcz4_1
    try clear hcz4_2
    try clear hcz4_3
    try clear hcz4_4
    try clear hcz4_5
    try clear hcz4_6
    try clear hcz4_7
    try clear hcz7_0
    try clear hcz7_1
    try clear hcz7_2
    try clear hcz7_3
    try clear hcz7_4
    try clear hcz7_5
    try clear hcz7_6
    try clear hcz7_7
    try clear hcz9_0
    try clear hcz9_1
    try clear hcz9_2
    try clear hcz9_3
    try clear hcz9_4
    try clear hcz9_5
    try clear hcz9_6
    try clear hcz9_7
    try clear hfz10_0
    try clear hfz10_1
    try clear hfz10_2
    try clear hfz10_3
    try clear hfz10_4
    try clear hfz10_5
    try clear hfz10_6
    try clear hfz10_7
    try clear hfz4_0
    try clear hfz4_1
    try clear hfz4_2
    try clear hfz4_3
    try clear hfz4_4
    try clear hfz4_5
    try clear hfz4_6
    try clear hfz4_7
    try clear hfz7_0
    try clear hfz7_1
    try clear hfz7_2
    try clear hfz7_3
    try clear hfz7_4
    try clear hfz7_5
    try clear hfz7_6
    try clear hfz7_7
    try clear hfz9_0
    try clear hfz9_1
    try clear hfz9_2
    try clear hfz9_3
    try clear hfz9_4
    try clear hfz9_5
    try clear hfz9_6
    try clear hfz9_7
    obtain ⟨kq, x3_1, rfl, HA, HJ1, BK104, HB⟩ := hcut
    cases kq with
    | zero => exact absurd HA.out (by simp [span_May.j0])
    | succ kj1 =>
      have H := HA.out
      clear HA
      simp only [span_May.j0] at H
      by_cases c11 : x3_1 = true
      · subst c11
        have H1 : (some false) = some r := by rw [if_pos rfl] at H; exact H
        clear H
        have H := H1
        clear H1
        obtain rfl := Option.some.inj H
        go_wp2
        go_ret
        exact ⟨by first | rfl | (simp [errW_none, errW_some] <;> rfl) | (simp [*, errW_none, errW_some] <;> rfl), by repeat (first | (with_reducible first | exact HB.out | apply below_alloc | apply pw_below_drewN | apply below_drew1 | refine below_set ?_ GE104.out) | exact HB.out)⟩
      · replace c11 := Bool.eq_false_iff.mpr c11
        subst c11
        have H1 : (if a0_6 < 0 then (span_May.j1 kj1 (decide (a0_6 < 0)) a0_0 a0_1 a0_2 a0_3 a0_4 a0_5 a0_6 a0_7) else (if a0_6 ≥ 1125899906842624 then (span_May.j1 kj1 (decide (a0_6 ≥ 1125899906842624)) a0_0 a0_1 a0_2 a0_3 a0_4 a0_5 a0_6 a0_7) else (if a0_7 < 0 then (span_May.j1 kj1 (decide (a0_7 < 0)) a0_0 a0_1 a0_2 a0_3 a0_4 a0_5 a0_6 a0_7) else (span_May.j1 kj1 (decide (a0_7 > 1125899906842624)) a0_0 a0_1 a0_2 a0_3 a0_4 a0_5 a0_6 a0_7)))) = some r := by rw [if_neg (show ¬ (false = true) by decide)] at H; exact H
        clear H
        have H := H1
        clear H1
        have HC12 := Aside0.mk H
        clear H
        have hcz13_0 : wc.cell? ⟨gb104, 0, none⟩ = some (.int .u64 a0_0) := (blk_cell BK104.out 0).trans rfl
        have hcz13_1 : wc.cell? ⟨gb104, 1, none⟩ = some (.int .u64 a0_1) := (blk_cell BK104.out 1).trans rfl
        have hcz13_2 : wc.cell? ⟨gb104, 2, none⟩ = some (.int .u64 a0_2) := (blk_cell BK104.out 2).trans rfl
        have hcz13_3 : wc.cell? ⟨gb104, 3, none⟩ = some (.int .u8 a0_3) := (blk_cell BK104.out 3).trans rfl
        have hcz13_4 : wc.cell? ⟨gb104, 4, none⟩ = some (.string a0_4) := (blk_cell BK104.out 4).trans rfl
        have hcz13_5 : wc.cell? ⟨gb104, 5, none⟩ = some (.string a0_5) := (blk_cell BK104.out 5).trans rfl
        have hcz13_6 : wc.cell? ⟨gb104, 6, none⟩ = some (.int .i64 a0_6) := (blk_cell BK104.out 6).trans rfl
        have hcz13_7 : wc.cell? ⟨gb104, 7, none⟩ = some (.int .i64 a0_7) := (blk_cell BK104.out 7).trans rfl
        have hfz13_0 := blk_frozen BK104.out 0
        have hfz13_1 := blk_frozen BK104.out 1
        have hfz13_2 := blk_frozen BK104.out 2
        have hfz13_3 := blk_frozen BK104.out 3
        have hfz13_4 := blk_frozen BK104.out 4
        have hfz13_5 := blk_frozen BK104.out 5
        have hfz13_6 := blk_frozen BK104.out 6
        have hfz13_7 := blk_frozen BK104.out 7
        go_upto_if 18 with (fail)
        go_cut [18] (fun v18 wc => ∃ (kq : Nat) (x18_11 : Bool), v18 = .bool x18_11 ∧ Aside0 (span_May.j1 kq x18_11 a0_0 a0_1 a0_2 a0_3 a0_4 a0_5 a0_6 a0_7 = some r) ∧ Aside0 (kq ≤ kj1) ∧ Aside0 (wc.heap[gb104]? = some (.cells #[.int .u64 a0_0, .int .u64 a0_1, .int .u64 a0_2, .int .u8 a0_3, .string a0_4, .string a0_5, .int .i64 a0_6, .int .i64 a0_7] 37 (0, 0))) ∧ Aside0 (Below w.heap.size w wc))
        case first =>
          have H := HC12.out
          clear HC12
          by_cases c14 : a0_6 < 0
          · rw [if_pos c14] at H
            have c14b0 : decide (a0_6 < 0) = true := decide_eq_true c14
            clear c14
            (first | rw [c14b0] | (simp only [i64_w, i32_w]; rw [c14b0]) | skip)
            have H' := Aside0.mk H
            clear H
            go_wp2
            go_meet
            case rel => exact ⟨_, (decide (a0_6 < 0)), (by first | rfl | (simp; done) | (simp [*]; done)), H', ⟨by have := HJ1.out; first | omega | exact Nat.le_refl _⟩, ⟨by (with_reducible repeat (first | refine blk_drewN ?_ _ | refine blk_drew ?_ | refine blk_alloc ?_ _)); exact BK104.out⟩, ⟨by repeat (first | (with_reducible first | exact HB.out | apply below_alloc | apply pw_below_drewN | apply below_drew1 | refine below_set ?_ GE104.out) | exact HB.out)⟩⟩
          · rw [if_neg c14] at H
            have c14b0 : decide (a0_6 < 0) = false := decide_eq_false c14
            clear c14
            (first | rw [c14b0] | (simp only [i64_w, i32_w]; rw [c14b0]) | skip)
            by_cases c15 : a0_6 ≥ 1125899906842624
            · rw [if_pos c15] at H
              have c15b0 : decide (1125899906842624 ≤ a0_6) = true := decide_eq_true c15
              clear c15
              have H' := Aside0.mk H
              clear H
              have hcz16_0 : wc.cell? ⟨gb104, 0, none⟩ = some (.int .u64 a0_0) := (blk_cell BK104.out 0).trans rfl
              have hcz16_1 : wc.cell? ⟨gb104, 1, none⟩ = some (.int .u64 a0_1) := (blk_cell BK104.out 1).trans rfl
              have hcz16_2 : wc.cell? ⟨gb104, 2, none⟩ = some (.int .u64 a0_2) := (blk_cell BK104.out 2).trans rfl
              have hcz16_3 : wc.cell? ⟨gb104, 3, none⟩ = some (.int .u8 a0_3) := (blk_cell BK104.out 3).trans rfl
              have hcz16_4 : wc.cell? ⟨gb104, 4, none⟩ = some (.string a0_4) := (blk_cell BK104.out 4).trans rfl
              have hcz16_5 : wc.cell? ⟨gb104, 5, none⟩ = some (.string a0_5) := (blk_cell BK104.out 5).trans rfl
              have hcz16_6 : wc.cell? ⟨gb104, 6, none⟩ = some (.int .i64 a0_6) := (blk_cell BK104.out 6).trans rfl
              have hcz16_7 : wc.cell? ⟨gb104, 7, none⟩ = some (.int .i64 a0_7) := (blk_cell BK104.out 7).trans rfl
              have hfz16_0 := blk_frozen BK104.out 0
              have hfz16_1 := blk_frozen BK104.out 1
              have hfz16_2 := blk_frozen BK104.out 2
              have hfz16_3 := blk_frozen BK104.out 3
              have hfz16_4 := blk_frozen BK104.out 4
              have hfz16_5 := blk_frozen BK104.out 5
              have hfz16_6 := blk_frozen BK104.out 6
              have hfz16_7 := blk_frozen BK104.out 7
              go_wp2
              go_meet
              case rel => exact ⟨_, (decide (a0_6 ≥ 1125899906842624)), (by first | rfl | (simp; done) | (simp [*]; done)), H', ⟨by have := HJ1.out; first | omega | exact Nat.le_refl _⟩, ⟨by (with_reducible repeat (first | refine blk_drewN ?_ _ | refine blk_drew ?_ | refine blk_alloc ?_ _)); exact BK104.out⟩, ⟨by repeat (first | (with_reducible first | exact HB.out | apply below_alloc | apply pw_below_drewN | apply below_drew1 | refine below_set ?_ GE104.out) | exact HB.out)⟩⟩
            · rw [if_neg c15] at H
              have c15b0 : decide (1125899906842624 ≤ a0_6) = false := decide_eq_false c15
              clear c15
              by_cases c17 : a0_7 < 0
              · rw [if_pos c17] at H
                have c17b0 : decide (a0_7 < 0) = true := decide_eq_true c17
                clear c17
                have H' := Aside0.mk H
                clear H
                have hcz18_0 : wc.cell? ⟨gb104, 0, none⟩ = some (.int .u64 a0_0) := (blk_cell BK104.out 0).trans rfl
                have hcz18_1 : wc.cell? ⟨gb104, 1, none⟩ = some (.int .u64 a0_1) := (blk_cell BK104.out 1).trans rfl
                have hcz18_2 : wc.cell? ⟨gb104, 2, none⟩ = some (.int .u64 a0_2) := (blk_cell BK104.out 2).trans rfl
                have hcz18_3 : wc.cell? ⟨gb104, 3, none⟩ = some (.int .u8 a0_3) := (blk_cell BK104.out 3).trans rfl
                have hcz18_4 : wc.cell? ⟨gb104, 4, none⟩ = some (.string a0_4) := (blk_cell BK104.out 4).trans rfl
                have hcz18_5 : wc.cell? ⟨gb104, 5, none⟩ = some (.string a0_5) := (blk_cell BK104.out 5).trans rfl
                have hcz18_6 : wc.cell? ⟨gb104, 6, none⟩ = some (.int .i64 a0_6) := (blk_cell BK104.out 6).trans rfl
                have hcz18_7 : wc.cell? ⟨gb104, 7, none⟩ = some (.int .i64 a0_7) := (blk_cell BK104.out 7).trans rfl
                have hfz18_0 := blk_frozen BK104.out 0
                have hfz18_1 := blk_frozen BK104.out 1
                have hfz18_2 := blk_frozen BK104.out 2
                have hfz18_3 := blk_frozen BK104.out 3
                have hfz18_4 := blk_frozen BK104.out 4
                have hfz18_5 := blk_frozen BK104.out 5
                have hfz18_6 := blk_frozen BK104.out 6
                have hfz18_7 := blk_frozen BK104.out 7
                go_wp2
                go_meet
                case rel => exact ⟨_, (decide (a0_7 < 0)), (by first | rfl | (simp; done) | (simp [*]; done)), H', ⟨by have := HJ1.out; first | omega | exact Nat.le_refl _⟩, ⟨by (with_reducible repeat (first | refine blk_drewN ?_ _ | refine blk_drew ?_ | refine blk_alloc ?_ _)); exact BK104.out⟩, ⟨by repeat (first | (with_reducible first | exact HB.out | apply below_alloc | apply pw_below_drewN | apply below_drew1 | refine below_set ?_ GE104.out) | exact HB.out)⟩⟩
              · rw [if_neg c17] at H
                have c17b0 : decide (a0_7 < 0) = false := decide_eq_false c17
                clear c17
                have H' := Aside0.mk H
                clear H
                have hcz19_0 : wc.cell? ⟨gb104, 0, none⟩ = some (.int .u64 a0_0) := (blk_cell BK104.out 0).trans rfl
                have hcz19_1 : wc.cell? ⟨gb104, 1, none⟩ = some (.int .u64 a0_1) := (blk_cell BK104.out 1).trans rfl
                have hcz19_2 : wc.cell? ⟨gb104, 2, none⟩ = some (.int .u64 a0_2) := (blk_cell BK104.out 2).trans rfl
                have hcz19_3 : wc.cell? ⟨gb104, 3, none⟩ = some (.int .u8 a0_3) := (blk_cell BK104.out 3).trans rfl
                have hcz19_4 : wc.cell? ⟨gb104, 4, none⟩ = some (.string a0_4) := (blk_cell BK104.out 4).trans rfl
                have hcz19_5 : wc.cell? ⟨gb104, 5, none⟩ = some (.string a0_5) := (blk_cell BK104.out 5).trans rfl
                have hcz19_6 : wc.cell? ⟨gb104, 6, none⟩ = some (.int .i64 a0_6) := (blk_cell BK104.out 6).trans rfl
                have hcz19_7 : wc.cell? ⟨gb104, 7, none⟩ = some (.int .i64 a0_7) := (blk_cell BK104.out 7).trans rfl
                have hfz19_0 := blk_frozen BK104.out 0
                have hfz19_1 := blk_frozen BK104.out 1
                have hfz19_2 := blk_frozen BK104.out 2
                have hfz19_3 := blk_frozen BK104.out 3
                have hfz19_4 := blk_frozen BK104.out 4
                have hfz19_5 := blk_frozen BK104.out 5
                have hfz19_6 := blk_frozen BK104.out 6
                have hfz19_7 := blk_frozen BK104.out 7
                go_wp2
                go_meet
                case rel => exact ⟨_, (decide (a0_7 > 1125899906842624)), (by first | rfl | (simp; done) | (simp [*]; done)), H', ⟨by have := HJ1.out; first | omega | exact Nat.le_refl _⟩, ⟨by (with_reducible repeat (first | refine blk_drewN ?_ _ | refine blk_drew ?_ | refine blk_alloc ?_ _)); exact BK104.out⟩, ⟨by repeat (first | (with_reducible first | exact HB.out | apply below_alloc | apply pw_below_drewN | apply below_drew1 | refine below_set ?_ GE104.out) | exact HB.out)⟩⟩
        case rest =>
          clear HC12
          try clear c1
          try clear p2
          try clear c4
          try clear c5
          try clear c5b0
          try clear c5b1
          try clear c6
          try clear c6b0
          try clear c6b1
          try clear c8
          try clear c8b0
          try clear c8b1
          try clear c11
          try clear c14
          try clear c14b0
          try clear c15
          try clear c15b0
          try clear c17
          try clear c17b0
          try clear hcz10_0
          try clear hcz10_1
          try clear hcz10_2
          try clear hcz10_3
          try clear hcz10_4
          try clear hcz10_5
          try clear hcz10_6
          try clear hcz10_7
          try clear hcz13_0
          try clear hcz13_1
          try clear hcz13_2
          try clear hcz13_3
          try clear hcz13_4
          try clear hcz13_5
          try clear hcz13_6
          try clear hcz13_7
          try clear hcz16_0
          try clear hcz16_1
          try clear hcz16_2
          try clear hcz16_3
          try clear hcz16_4
          try clear hcz16_5
          try clear hcz16_6
          try clear hcz16_7
          try clear hcz18_0
          try clear hcz18_1
          try clear hcz18_2
          try clear hcz18_3
          try clear hcz18_4
          try clear hcz18_5
          try clear hcz18_6
          try clear hcz18_7
          try clear hcz19_0
          try clear hcz19_1
          try clear hcz19_2
          try clear hcz19_3
          try clear hcz19_4
          try clear hcz19_5
          try clear hcz19_6
          try clear hcz19_7
          try clear hcz4_0
          try clear hcz4_1
          try clear hcz4_2
          try clear hcz4_3
          try clear hcz4_4
          try clear hcz4_5
          try clear hcz4_6
          try clear hcz4_7
          try clear hcz7_0
          try clear hcz7_1
          try clear hcz7_2
          try clear hcz7_3
          try clear hcz7_4
          try clear hcz7_5
          try clear hcz7_6
          try clear hcz7_7
          try clear hcz9_0
          try clear hcz9_1
          try clear hcz9_2
          try clear hcz9_3
          try clear hcz9_4
          try clear hcz9_5
          try clear hcz9_6
          try clear hcz9_7
          try clear hfz10_0
          try clear hfz10_1
          try clear hfz10_2
          try clear hfz10_3
          try clear hfz10_4
          try clear hfz10_5
          try clear hfz10_6
          try clear hfz10_7
          try clear hfz13_0
          try clear hfz13_1
          try clear hfz13_2
          try clear hfz13_3
          try clear hfz13_4
          try clear hfz13_5
          try clear hfz13_6
          try clear hfz13_7
          try clear hfz16_0
          try clear hfz16_1
          try clear hfz16_2
          try clear hfz16_3
          try clear hfz16_4
          try clear hfz16_5
          try clear hfz16_6
          try clear hfz16_7
          try clear hfz18_0
          try clear hfz18_1
          try clear hfz18_2
          try clear hfz18_3
          try clear hfz18_4
          try clear hfz18_5
          try clear hfz18_6
          try clear hfz18_7
          try clear hfz19_0
          try clear hfz19_1
          try clear hfz19_2
          try clear hfz19_3
          try clear hfz19_4
          try clear hfz19_5
          try clear hfz19_6
          try clear hfz19_7
          try clear hfz4_0
          try clear hfz4_1
          try clear hfz4_2
          try clear hfz4_3
          try clear hfz4_4
          try clear hfz4_5
          try clear hfz4_6
          try clear hfz4_7
          try clear hfz7_0
          try clear hfz7_1
          try clear hfz7_2
          try clear hfz7_3
          try clear hfz7_4
          try clear hfz7_5
          try clear hfz7_6
          try clear hfz7_7
          try clear hfz9_0
          try clear hfz9_1
          try clear hfz9_2
          try clear hfz9_3
          try clear hfz9_4
          try clear hfz9_5
          try clear hfz9_6
          try clear hfz9_7
          try clear p2
          obtain ⟨kq, x18_11, rfl, HA, HJ11, BK104, HB⟩ := hcut
          cases kq with
          | zero => exact absurd HA.out (by simp [span_May.j1])
          | succ kj11 =>
            have H := HA.out
            clear HA
            simp only [span_May.j1] at H
            by_cases c20 : x18_11 = true
            · subst c20
              have H1 : (some false) = some r := by rw [if_pos rfl] at H; exact H
              clear H
              have H := H1
              clear H1
              obtain rfl := Option.some.inj H
              go_wp2
              go_ret
              exact ⟨by first | rfl | (simp [errW_none, errW_some] <;> rfl) | (simp [*, errW_none, errW_some] <;> rfl), by repeat (first | (with_reducible first | exact HB.out | apply below_alloc | apply pw_below_drewN | apply below_drew1 | refine below_set ?_ GE104.out) | exact HB.out)⟩
            · replace c20 := Bool.eq_false_iff.mpr c20
              subst c20
              have H1 : ((span_Name.f kj11 a0_4).bind fun t105 => (if t105 = true then ((span_Name.f kj11 a0_5).bind fun t106 => (some t106)) else (some false))) = some r := by rw [if_neg (show ¬ (false = true) by decide)] at H; exact H
              clear H
              have H := H1
              clear H1
              replace H := Option.bind_eq_some_iff.mp H
              obtain ⟨t105, A210, H⟩ := H
              replace H : (if t105 = true then ((span_Name.f kj11 a0_5).bind fun t106 => (some t106)) else (some false)) = some r := H
              have A21 := Aside0.mk A210
              clear A210
              by_cases c22 : t105 = true
              · subst c22
                have H1 : ((span_Name.f kj11 a0_5).bind fun t106 => (some t106)) = some r := by rw [if_pos rfl] at H; exact H
                clear H
                have H := H1
                clear H1
                replace H := Option.bind_eq_some_iff.mp H
                obtain ⟨t106, A230, H⟩ := H
                replace H : (some t106) = some r := H
                have A23 := Aside0.mk A230
                clear A230
                obtain rfl := Option.some.inj H
                have hcz24_0 : wc.cell? ⟨gb104, 0, none⟩ = some (.int .u64 a0_0) := (blk_cell BK104.out 0).trans rfl
                have hcz24_1 : wc.cell? ⟨gb104, 1, none⟩ = some (.int .u64 a0_1) := (blk_cell BK104.out 1).trans rfl
                have hcz24_2 : wc.cell? ⟨gb104, 2, none⟩ = some (.int .u64 a0_2) := (blk_cell BK104.out 2).trans rfl
                have hcz24_3 : wc.cell? ⟨gb104, 3, none⟩ = some (.int .u8 a0_3) := (blk_cell BK104.out 3).trans rfl
                have hcz24_4 : wc.cell? ⟨gb104, 4, none⟩ = some (.string a0_4) := (blk_cell BK104.out 4).trans rfl
                have hcz24_5 : wc.cell? ⟨gb104, 5, none⟩ = some (.string a0_5) := (blk_cell BK104.out 5).trans rfl
                have hcz24_6 : wc.cell? ⟨gb104, 6, none⟩ = some (.int .i64 a0_6) := (blk_cell BK104.out 6).trans rfl
                have hcz24_7 : wc.cell? ⟨gb104, 7, none⟩ = some (.int .i64 a0_7) := (blk_cell BK104.out 7).trans rfl
                have hfz24_0 := blk_frozen BK104.out 0
                have hfz24_1 := blk_frozen BK104.out 1
                have hfz24_2 := blk_frozen BK104.out 2
                have hfz24_3 := blk_frozen BK104.out 3
                have hfz24_4 := blk_frozen BK104.out 4
                have hfz24_5 := blk_frozen BK104.out 5
                have hfz24_6 := blk_frozen BK104.out 6
                have hfz24_7 := blk_frozen BK104.out 7
                go_wp2_with (first | ((with_reducible refine gate_callee (f := 49) rfl ?_); refine goesL_ (some 33) rfl rfl Try.func49 (by kernel_rfl) rfl #[.string a0_4] rfl (by (try simp only [List.map_toArray, List.map_cons, List.map_nil]); first | done | rfl | (simp only [List.length_drop, List.length_take]; rfl)) ?_; (with_reducible refine (span_Name.calls kj11 a0_4 true _ A21.out).mono ?_); rintro e w' ⟨rfl, ⟨nd, rfl⟩⟩; refine ⟨_, rfl, ?_⟩) | (go_at_call 49; (with_reducible refine (span_Name.calls kj11 a0_5 t106 _ A23.out).mono ?_); rintro e w' ⟨rfl, ⟨nd, rfl⟩⟩))
                go_ret
                exact ⟨by first | rfl | (simp [errW_none, errW_some] <;> rfl) | (simp [*, errW_none, errW_some] <;> rfl), by repeat (first | (with_reducible first | exact HB.out | apply below_alloc | apply pw_below_drewN | apply below_drew1 | refine below_set ?_ GE104.out) | exact HB.out)⟩
              · replace c22 := Bool.eq_false_iff.mpr c22
                subst c22
                have H1 : (some false) = some r := by rw [if_neg (show ¬ (false = true) by decide)] at H; exact H
                clear H
                have H := H1
                clear H1
                obtain rfl := Option.some.inj H
                have hcz25_0 : wc.cell? ⟨gb104, 0, none⟩ = some (.int .u64 a0_0) := (blk_cell BK104.out 0).trans rfl
                have hcz25_1 : wc.cell? ⟨gb104, 1, none⟩ = some (.int .u64 a0_1) := (blk_cell BK104.out 1).trans rfl
                have hcz25_2 : wc.cell? ⟨gb104, 2, none⟩ = some (.int .u64 a0_2) := (blk_cell BK104.out 2).trans rfl
                have hcz25_3 : wc.cell? ⟨gb104, 3, none⟩ = some (.int .u8 a0_3) := (blk_cell BK104.out 3).trans rfl
                have hcz25_4 : wc.cell? ⟨gb104, 4, none⟩ = some (.string a0_4) := (blk_cell BK104.out 4).trans rfl
                have hcz25_5 : wc.cell? ⟨gb104, 5, none⟩ = some (.string a0_5) := (blk_cell BK104.out 5).trans rfl
                have hcz25_6 : wc.cell? ⟨gb104, 6, none⟩ = some (.int .i64 a0_6) := (blk_cell BK104.out 6).trans rfl
                have hcz25_7 : wc.cell? ⟨gb104, 7, none⟩ = some (.int .i64 a0_7) := (blk_cell BK104.out 7).trans rfl
                have hfz25_0 := blk_frozen BK104.out 0
                have hfz25_1 := blk_frozen BK104.out 1
                have hfz25_2 := blk_frozen BK104.out 2
                have hfz25_3 := blk_frozen BK104.out 3
                have hfz25_4 := blk_frozen BK104.out 4
                have hfz25_5 := blk_frozen BK104.out 5
                have hfz25_6 := blk_frozen BK104.out 6
                have hfz25_7 := blk_frozen BK104.out 7
                go_wp2_with (first | ((with_reducible refine gate_callee (f := 49) rfl ?_); refine goesL_ (some 33) rfl rfl Try.func49 (by kernel_rfl) rfl #[.string a0_4] rfl (by (try simp only [List.map_toArray, List.map_cons, List.map_nil]); first | done | rfl | (simp only [List.length_drop, List.length_take]; rfl)) ?_; (with_reducible refine (span_Name.calls kj11 a0_4 false _ A21.out).mono ?_); rintro e w' ⟨rfl, ⟨nd, rfl⟩⟩; refine ⟨_, rfl, ?_⟩))
                go_ret
                exact ⟨by first | rfl | (simp [errW_none, errW_some] <;> rfl) | (simp [*, errW_none, errW_some] <;> rfl), by repeat (first | (with_reducible first | exact HB.out | apply below_alloc | apply pw_below_drewN | apply below_drew1 | refine below_set ?_ GE104.out) | exact HB.out)⟩

/-! ### rpc_finder: function 44 -/
def rpc_finder_at (k : Nat) (l0 : List S37) (a : Int) : Option (S37 × Bool) := if a < 0 then some (z37, false) else if a < (l0.length : Int) then (span_May.f k (rd_T37 l0 a).f0 (rd_T37 l0 a).f1 (rd_T37 l0 a).f2 (rd_T37 l0 a).f3 (rd_T37 l0 a).f4 (rd_T37 l0 a).f5 (rd_T37 l0 a).f6 (rd_T37 l0 a).f7).bind fun m => if m = true then some (rd_T37 l0 a, true) else some (z37, false) else some (z37, false)
theorem rpc_finder_at_mono (k : Nat) (l0 : List S37) (a : Int) : LeO (rpc_finder_at k l0 a) (rpc_finder_at (k + 1) l0 a) :=
  LeO.ite (LeO.refl _) (LeO.ite (LeO.bind (span_May.mono _ _ _ _ _ _ _ _ _) (fun _ => LeO.refl _)) (LeO.refl _))
set_option maxHeartbeats 8000000 in
set_option maxRecDepth 100000 in
theorem rpc_finder.calls (A0 : Option Addr) (c0 : Nat) (n : Nat) (w : World) :
    Calls Try.prog 44 #[.slice A0 n c0] w fun e w' => e = .returned (.func (.func 46) #[] #[.pointer (some ⟨w.heap.size, 0, none⟩)]) ∧ w' = w.alloc (.cells #[.slice A0 n c0] 22 (0, 0)) := by
  have hmf : ∀ (fn : Fn) (first cap : Array Value) (w : World), (Instr.makeFunc fn first cap).run Try.prog w = .ok (.func fn first cap) w := fun _ _ _ _ => rfl
  go_enter Try.func44, Try.ntmps44
  go_wp2
  go_ret
  exact ⟨rfl, rfl⟩
set_option maxHeartbeats 8000000 in
set_option maxRecDepth 100000 in
theorem rpc_finder_at_calls (k : Nat) (A0 : Option Addr) (c0 : Nat) (l0 : List S37) (R : Nat) (a : Int) (s : S37) (ok : Bool) (W : World) (hb : W.heap[R]? = some (.cells #[.slice A0 l0.length c0] 22 (0, 0))) (hr : Kd.C k37 W A0 l0.length l0) (h : rpc_finder_at k l0 a = some (s, ok)) :
    Calls Try.prog 46 #[.int .i64 a, .pointer (some ⟨R, 0, none⟩)] W fun e w' => e = .returned (.tuple #[.agg #[.int .u64 s.f0, .int .u64 s.f1, .int .u64 s.f2, .int .u8 s.f3, .string s.f4, .string s.f5, .int .i64 s.f6, .int .i64 s.f7], .bool ok]) ∧ Below W.heap.size W w' := by
  have hu_ := Try.underlying37
  have HB := Aside0.mk hb
  have HR := Aside0.mk hr
  have hcR : ∀ o : Obj, (W.alloc o).cell? ⟨R, 0, none⟩ = some (.slice A0 l0.length c0) := fun o => (blk_cell (blk_alloc hb o) 0).trans rfl
  clear hb hr
  unfold rpc_finder_at at h
  by_cases c1 : a < 0
  · rw [if_pos c1] at h
    obtain ⟨h1, h2⟩ := Prod.mk.inj (Option.some.inj h)
    subst h1 h2
    clear h
    have c1b := decide_eq_true c1
    go_enter Try.func46, Try.ntmps46
    go_wp2
    refine bodyPost_ret (results_ct rfl _ _ W.heap.size 37 _ (0, 0) _ rfl (blk_new _ _) Try.underlying37 rfl (by kernel_rfl)) rfl ?_
    exact ⟨rfl, below_alloc (Below.refl _ _) _⟩
  · rw [if_neg c1] at h
    have c1b := decide_eq_false c1
    have ha0 : 0 ≤ a := by omega
    by_cases c2 : a < (l0.length : Int)
    · rw [if_pos c2] at h
      have c2b : decide ((l0.length : Int) ≤ a) = false := decide_eq_false (by omega)
      obtain ⟨m, hm, h⟩ := Option.bind_eq_some_iff.mp h
      obtain ⟨ad, e, hx0, hx1, hx2, hx3, hx4, hx5, hx6, hx7⟩ := at_T37 HR.out a ha0 c2
      cases e
      generalize rd_T37 l0 a = y at hx0 hx1 hx2 hx3 hx4 hx5 hx6 hx7 hm h
      obtain ⟨y0, y1, y2, y3, y4, y5, y6, y7⟩ := y
      have HM := Aside0.mk hm
      have hq : ∀ o : Obj, Below W.heap.size W (W.alloc o) := fun o => below_alloc (Below.refl _ _) o
      have gx0 : ∀ o : Obj, (W.alloc o).cell? _ = _ := fun o => ((hq o).cell (World.block_lt_of_cell? W _ hx0)).trans hx0
      have gx1 : ∀ o : Obj, (W.alloc o).cell? _ = _ := fun o => ((hq o).cell (World.block_lt_of_cell? W _ hx1)).trans hx1
      have gx2 : ∀ o : Obj, (W.alloc o).cell? _ = _ := fun o => ((hq o).cell (World.block_lt_of_cell? W _ hx2)).trans hx2
      have gx3 : ∀ o : Obj, (W.alloc o).cell? _ = _ := fun o => ((hq o).cell (World.block_lt_of_cell? W _ hx3)).trans hx3
      have gx4 : ∀ o : Obj, (W.alloc o).cell? _ = _ := fun o => ((hq o).cell (World.block_lt_of_cell? W _ hx4)).trans hx4
      have gx5 : ∀ o : Obj, (W.alloc o).cell? _ = _ := fun o => ((hq o).cell (World.block_lt_of_cell? W _ hx5)).trans hx5
      have gx6 : ∀ o : Obj, (W.alloc o).cell? _ = _ := fun o => ((hq o).cell (World.block_lt_of_cell? W _ hx6)).trans hx6
      have gx7 : ∀ o : Obj, (W.alloc o).cell? _ = _ := fun o => ((hq o).cell (World.block_lt_of_cell? W _ hx7)).trans hx7
      clear hm hq hx0 hx1 hx2 hx3 hx4 hx5 hx6 hx7
      cases m with
      | false =>
        obtain ⟨h1, h2⟩ := Prod.mk.inj (Option.some.inj (show some (z37, false) = some (s, ok) from h))
        subst h1 h2
        clear h
        go_enter Try.func46, Try.ntmps46
        go_wp2_with (go_at_call 47; refine (span_May.calls k y0 y1 y2 y3 y4 y5 y6 y7 false _ HM.out).mono ?_; rintro e w2 ⟨rfl, hb⟩; have HB2 := Aside0.mk hb; have HV := Aside0.mk (blk_below (blk_new W (.cells #[.int .u64 0, .int .u64 0, .int .u64 0, .int .u8 0, .string ⟨#[]⟩, .string ⟨#[]⟩, .int .i64 0, .int .i64 0] 37 (0, 0))) hb); have cR0 := blk_cell HV.out 0; have cR1 := blk_cell HV.out 1; have cR2 := blk_cell HV.out 2; have cR3 := blk_cell HV.out 3; have cR4 := blk_cell HV.out 4; have cR5 := blk_cell HV.out 5; have cR6 := blk_cell HV.out 6; have cR7 := blk_cell HV.out 7; have fR0 := blk_frozen HV.out 0; have fR1 := blk_frozen HV.out 1; have fR2 := blk_frozen HV.out 2; have fR3 := blk_frozen HV.out 3; have fR4 := blk_frozen HV.out 4; have fR5 := blk_frozen HV.out 5; have fR6 := blk_frozen HV.out 6; have fR7 := blk_frozen HV.out 7; clear hb)
        refine bodyPost_ret (results_ct rfl _ _ W.heap.size 37 _ (0, 0) _ rfl (blk_set (blk_set (blk_set (blk_set (blk_set (blk_set (blk_set (blk_set (HV.out) 0 _) 1 _) 2 _) 3 _) 4 _) 5 _) 6 _) 7 _) Try.underlying37 rfl (by kernel_rfl)) rfl ?_
        exact ⟨rfl, below_set (below_set (below_set (below_set (below_set (below_set (below_set (below_set (below_step (below_alloc (Below.refl _ _) _) HB2.out) (Nat.le_refl _)) (Nat.le_refl _)) (Nat.le_refl _)) (Nat.le_refl _)) (Nat.le_refl _)) (Nat.le_refl _)) (Nat.le_refl _)) (Nat.le_refl _)⟩
      | true =>
        obtain ⟨h1, h2⟩ := Prod.mk.inj (Option.some.inj (show some ((⟨y0, y1, y2, y3, y4, y5, y6, y7⟩ : S37), true) = some (s, ok) from h))
        subst h1 h2
        clear h
        go_enter Try.func46, Try.ntmps46
        go_wp2_with (go_at_call 47; refine (span_May.calls k y0 y1 y2 y3 y4 y5 y6 y7 true _ HM.out).mono ?_; rintro e w2 ⟨rfl, hb⟩; have HB2 := Aside0.mk hb; have HV := Aside0.mk (blk_below (blk_new W (.cells #[.int .u64 0, .int .u64 0, .int .u64 0, .int .u8 0, .string ⟨#[]⟩, .string ⟨#[]⟩, .int .i64 0, .int .i64 0] 37 (0, 0))) hb); have cR0 := blk_cell HV.out 0; have cR1 := blk_cell HV.out 1; have cR2 := blk_cell HV.out 2; have cR3 := blk_cell HV.out 3; have cR4 := blk_cell HV.out 4; have cR5 := blk_cell HV.out 5; have cR6 := blk_cell HV.out 6; have cR7 := blk_cell HV.out 7; have fR0 := blk_frozen HV.out 0; have fR1 := blk_frozen HV.out 1; have fR2 := blk_frozen HV.out 2; have fR3 := blk_frozen HV.out 3; have fR4 := blk_frozen HV.out 4; have fR5 := blk_frozen HV.out 5; have fR6 := blk_frozen HV.out 6; have fR7 := blk_frozen HV.out 7; have cS := (hb.cell (World.block_lt_of_cell? _ _ (hcR _))).trans (hcR _); have kx0 := (hb.cell (World.block_lt_of_cell? _ _ (gx0 _))).trans (gx0 _); have kx1 := (hb.cell (World.block_lt_of_cell? _ _ (gx1 _))).trans (gx1 _); have kx2 := (hb.cell (World.block_lt_of_cell? _ _ (gx2 _))).trans (gx2 _); have kx3 := (hb.cell (World.block_lt_of_cell? _ _ (gx3 _))).trans (gx3 _); have kx4 := (hb.cell (World.block_lt_of_cell? _ _ (gx4 _))).trans (gx4 _); have kx5 := (hb.cell (World.block_lt_of_cell? _ _ (gx5 _))).trans (gx5 _); have kx6 := (hb.cell (World.block_lt_of_cell? _ _ (gx6 _))).trans (gx6 _); have kx7 := (hb.cell (World.block_lt_of_cell? _ _ (gx7 _))).trans (gx7 _); clear hb)
        refine bodyPost_ret (results_ct rfl _ _ W.heap.size 37 _ (0, 0) _ rfl (blk_set (blk_set (blk_set (blk_set (blk_set (blk_set (blk_set (blk_set (HV.out) 0 _) 1 _) 2 _) 3 _) 4 _) 5 _) 6 _) 7 _) Try.underlying37 rfl (by kernel_rfl)) rfl ?_
        exact ⟨rfl, below_set (below_set (below_set (below_set (below_set (below_set (below_set (below_set (below_step (below_alloc (Below.refl _ _) _) HB2.out) (Nat.le_refl _)) (Nat.le_refl _)) (Nat.le_refl _)) (Nat.le_refl _)) (Nat.le_refl _)) (Nat.le_refl _)) (Nat.le_refl _)) (Nat.le_refl _)⟩
    · rw [if_neg c2] at h
      have c2b : decide ((l0.length : Int) ≤ a) = true := decide_eq_true (by omega)
      obtain ⟨h1, h2⟩ := Prod.mk.inj (Option.some.inj h)
      subst h1 h2
      clear h
      go_enter Try.func46, Try.ntmps46
      go_wp2
      refine bodyPost_ret (results_ct rfl _ _ W.heap.size 37 _ (0, 0) _ rfl (blk_new _ _) Try.underlying37 rfl (by kernel_rfl)) rfl ?_
      exact ⟨rfl, below_alloc (Below.refl _ _) _⟩


end Go.Proofs.Ytcgjplolehhpjaa.S
