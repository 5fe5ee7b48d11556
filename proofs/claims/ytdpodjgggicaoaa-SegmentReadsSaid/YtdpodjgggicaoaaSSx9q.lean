-- WRITTEN FOR THIS CLAIM by wip/tools/mp.py, a program of this project that drives the kit's print; the functions that the print does not take are this project's own texts.
import Derived.Test.YtdpodjgggicaoaaSSx0q
import Derived.Test.YtdpodjgggicaoaaSSx8q
namespace Go.Proofs.Ytdpodjgggicaoaa.SS
open Go.RowKit Go.Proofs.YtdpodjgggicaoaaW.PrintWords Go.Proofs.YtdpodjgggicaoaaW.PrintLast Go.Proofs.YtdpodjgggicaoaaW.PrintMore
attribute [local go_sem] max2_int min2_int max_two min_two max_three min_three max_four min_four   -- for this text's walks alone
set_option linter.unusedVariables false
set_option linter.unusedSimpArgs false
mutual
def merkhetref01_May.j0 : Nat → Bool → Int → Int → Int → Int → ByteArray → ByteArray → Int → Int → Option (Bool)
  | 0, _, _, _, _, _, _, _, _, _ => none
  | k + 1, x17, x268000, x268001, x268002, x268003, x268004, x268005, x268006, x268007 => if x17 = true then (some false) else (if x268003 = 0 then (merkhetref01_May.j1 k false x268000 x268001 x268002 x268003 x268004 x268005 x268006 x268007) else (if x268003 = 1 then (merkhetref01_May.j1 k false x268000 x268001 x268002 x268003 x268004 x268005 x268006 x268007) else (merkhetref01_May.j1 k (x268003 != 2) x268000 x268001 x268002 x268003 x268004 x268005 x268006 x268007)))
def merkhetref01_May.j1 : Nat → Bool → Int → Int → Int → Int → ByteArray → ByteArray → Int → Int → Option (Bool)
  | 0, _, _, _, _, _, _, _, _, _ => none
  | k + 1, x30, x268000, x268001, x268002, x268003, x268004, x268005, x268006, x268007 => if x30 = true then (some false) else (if x268006 < 0 then (merkhetref01_May.j2 k true x268000 x268001 x268002 x268003 x268004 x268005 x268006 x268007) else (if x268006 > 1125899906842623 then (merkhetref01_May.j2 k true x268000 x268001 x268002 x268003 x268004 x268005 x268006 x268007) else (if x268007 < 0 then (merkhetref01_May.j2 k true x268000 x268001 x268002 x268003 x268004 x268005 x268006 x268007) else (merkhetref01_May.j2 k (decide (x268007 > 1125899906842624)) x268000 x268001 x268002 x268003 x268004 x268005 x268006 x268007))))
def merkhetref01_May.j2 : Nat → Bool → Int → Int → Int → Int → ByteArray → ByteArray → Int → Int → Option (Bool)
  | 0, _, _, _, _, _, _, _, _, _ => none
  | k + 1, x48, x268000, x268001, x268002, x268003, x268004, x268005, x268006, x268007 => if x48 = true then (some false) else ((merkhetref01_Name.f k x268004).bind fun t268 => (if t268 = true then ((merkhetref01_Name.f k x268005).bind fun t269 => (some t269)) else (some false)))
end
def merkhetref01_May.f (k : Nat) (a0_0 : Int) (a0_1 : Int) (a0_2 : Int) (a0_3 : Int) (a0_4 : ByteArray) (a0_5 : ByteArray) (a0_6 : Int) (a0_7 : Int) : Option (Bool) := if a0_0 = 0 then (merkhetref01_May.j0 k true a0_0 a0_1 a0_2 a0_3 a0_4 a0_5 a0_6 a0_7) else (if a0_1 = 0 then (merkhetref01_May.j0 k true a0_0 a0_1 a0_2 a0_3 a0_4 a0_5 a0_6 a0_7) else (merkhetref01_May.j0 k (a0_2 == a0_1) a0_0 a0_1 a0_2 a0_3 a0_4 a0_5 a0_6 a0_7))
theorem merkhetref01_May.mono_l : ∀ k, (∀ y0 y1 y2 y3 y4 y5 y6 y7 y8, LeO (merkhetref01_May.j0 k y0 y1 y2 y3 y4 y5 y6 y7 y8) (merkhetref01_May.j0 (k + 1) y0 y1 y2 y3 y4 y5 y6 y7 y8)) ∧ (∀ y0 y1 y2 y3 y4 y5 y6 y7 y8, LeO (merkhetref01_May.j1 k y0 y1 y2 y3 y4 y5 y6 y7 y8) (merkhetref01_May.j1 (k + 1) y0 y1 y2 y3 y4 y5 y6 y7 y8)) ∧ (∀ y0 y1 y2 y3 y4 y5 y6 y7 y8, LeO (merkhetref01_May.j2 k y0 y1 y2 y3 y4 y5 y6 y7 y8) (merkhetref01_May.j2 (k + 1) y0 y1 y2 y3 y4 y5 y6 y7 y8))
  | 0 => ⟨fun _ _ _ _ _ _ _ _ _ r h => by simp [merkhetref01_May.j0] at h, fun _ _ _ _ _ _ _ _ _ r h => by simp [merkhetref01_May.j1] at h, fun _ _ _ _ _ _ _ _ _ r h => by simp [merkhetref01_May.j2] at h⟩
  | k + 1 => by
    obtain ⟨ih0, ih1, ih2⟩ := merkhetref01_May.mono_l k
    refine ⟨?_, ?_, ?_⟩
    · intro y0 y1 y2 y3 y4 y5 y6 y7 y8
      unfold merkhetref01_May.j0
      repeat' first
      | (with_reducible exact ih0 _ _ _ _ _ _ _ _ _)
      | (with_reducible exact ih1 _ _ _ _ _ _ _ _ _)
      | (with_reducible exact ih2 _ _ _ _ _ _ _ _ _)
      | (with_reducible exact merkhetref01_Name.mono _ _)
      | (with_reducible exact LeO.refl _)
      | (with_reducible exact LeO.none _)
      | (with_reducible refine LeO.ite ?_ ?_)
      | (with_reducible refine LeO.bind ?_ (fun _ => ?_))
      | exact ih0 _ _ _ _ _ _ _ _ _
      | exact ih1 _ _ _ _ _ _ _ _ _
      | exact ih2 _ _ _ _ _ _ _ _ _
      | exact merkhetref01_Name.mono _ _
      | exact LeO.none _
      | refine LeO.ite ?_ ?_
      | refine LeO.bind ?_ (fun _ => ?_)
    · intro y0 y1 y2 y3 y4 y5 y6 y7 y8
      unfold merkhetref01_May.j1
      repeat' first
      | (with_reducible exact ih0 _ _ _ _ _ _ _ _ _)
      | (with_reducible exact ih1 _ _ _ _ _ _ _ _ _)
      | (with_reducible exact ih2 _ _ _ _ _ _ _ _ _)
      | (with_reducible exact merkhetref01_Name.mono _ _)
      | (with_reducible exact LeO.refl _)
      | (with_reducible exact LeO.none _)
      | (with_reducible refine LeO.ite ?_ ?_)
      | (with_reducible refine LeO.bind ?_ (fun _ => ?_))
      | exact ih0 _ _ _ _ _ _ _ _ _
      | exact ih1 _ _ _ _ _ _ _ _ _
      | exact ih2 _ _ _ _ _ _ _ _ _
      | exact merkhetref01_Name.mono _ _
      | exact LeO.none _
      | refine LeO.ite ?_ ?_
      | refine LeO.bind ?_ (fun _ => ?_)
    · intro y0 y1 y2 y3 y4 y5 y6 y7 y8
      unfold merkhetref01_May.j2
      repeat' first
      | (with_reducible exact ih0 _ _ _ _ _ _ _ _ _)
      | (with_reducible exact ih1 _ _ _ _ _ _ _ _ _)
      | (with_reducible exact ih2 _ _ _ _ _ _ _ _ _)
      | (with_reducible exact merkhetref01_Name.mono _ _)
      | (with_reducible exact LeO.refl _)
      | (with_reducible exact LeO.none _)
      | (with_reducible refine LeO.ite ?_ ?_)
      | (with_reducible refine LeO.bind ?_ (fun _ => ?_))
      | exact ih0 _ _ _ _ _ _ _ _ _
      | exact ih1 _ _ _ _ _ _ _ _ _
      | exact ih2 _ _ _ _ _ _ _ _ _
      | exact merkhetref01_Name.mono _ _
      | exact LeO.none _
      | refine LeO.ite ?_ ?_
      | refine LeO.bind ?_ (fun _ => ?_)
theorem merkhetref01_May.mono : ∀ a0 a1 a2 a3 a4 a5 a6 a7 k, LeO (merkhetref01_May.f k a0 a1 a2 a3 a4 a5 a6 a7) (merkhetref01_May.f (k + 1) a0 a1 a2 a3 a4 a5 a6 a7) := by
  intro a0 a1 a2 a3 a4 a5 a6 a7 k
  obtain ⟨ih0, ih1, ih2⟩ := merkhetref01_May.mono_l k
  unfold merkhetref01_May.f
  repeat' first
      | (with_reducible exact ih0 _ _ _ _ _ _ _ _ _)
      | (with_reducible exact ih1 _ _ _ _ _ _ _ _ _)
      | (with_reducible exact ih2 _ _ _ _ _ _ _ _ _)
      | (with_reducible exact merkhetref01_Name.mono _ _)
      | (with_reducible exact LeO.refl _)
      | (with_reducible exact LeO.none _)
      | (with_reducible refine LeO.ite ?_ ?_)
      | (with_reducible refine LeO.bind ?_ (fun _ => ?_))
      | exact ih0 _ _ _ _ _ _ _ _ _
      | exact ih1 _ _ _ _ _ _ _ _ _
      | exact ih2 _ _ _ _ _ _ _ _ _
      | exact merkhetref01_Name.mono _ _
      | exact LeO.none _
      | refine LeO.ite ?_ ?_
      | refine LeO.bind ?_ (fun _ => ?_)
set_option maxHeartbeats 8000000 in
set_option maxRecDepth 100000 in
theorem merkhetref01_May.calls (k : Nat) (a0_0 : Int) (a0_1 : Int) (a0_2 : Int) (a0_3 : Int) (a0_4 : ByteArray) (a0_5 : ByteArray) (a0_6 : Int) (a0_7 : Int) (r : Bool) (w : World) (h : merkhetref01_May.f k a0_0 a0_1 a0_2 a0_3 a0_4 a0_5 a0_6 a0_7 = some r) :
    Calls Try.prog 51 #[.agg #[.int .u64 a0_0, .int .u64 a0_1, .int .u64 a0_2, .int .u8 a0_3, .string a0_4, .string a0_5, .int .i64 a0_6, .int .i64 a0_7]] w fun e w' => e = .returned (.bool r) ∧ Below w.heap.size w w' := by
  have hu77 := Try.underlying77
  have HB := Aside0.mk (Below.refl w.heap.size w)
  have H : (if a0_0 = 0 then (merkhetref01_May.j0 k true a0_0 a0_1 a0_2 a0_3 a0_4 a0_5 a0_6 a0_7) else (if a0_1 = 0 then (merkhetref01_May.j0 k true a0_0 a0_1 a0_2 a0_3 a0_4 a0_5 a0_6 a0_7) else (merkhetref01_May.j0 k (a0_2 == a0_1) a0_0 a0_1 a0_2 a0_3 a0_4 a0_5 a0_6 a0_7))) = some r := h
  clear h
  have HC2 := Aside0.mk H
  clear H
  go_enter Try.func51, Try.ntmps51
  go_upto_region 1 with (first | ((with_reducible refine gate_dst (N := 1) rfl ?_); refine box_event ?hg (N := 1) ?hd (cs := #[.int .u64 a0_0, .int .u64 a0_1, .int .u64 a0_2, .int .u8 a0_3, .string a0_4, .string a0_5, .int .i64 a0_6, .int .i64 a0_7]) (t := 77) ?hr ?_; (case hd => rfl); (case hg => rfl); (case hr => first | (go_simp; done) | (go_simp; rfl)); intro gb267 hg w3 hbox hb; have n0_ := Aside0.mk (below_step (by repeat (first | (with_reducible first | exact HB.out | apply below_alloc | apply pw_below_drewN | apply below_drew1) | exact HB.out)) hb); have n1_ := Aside0.mk (hbox); have n2_ := Aside0.mk ((by rw [hg]; exact (below_size (by repeat (first | (with_reducible first | exact HB.out | apply below_alloc | apply pw_below_drewN | apply below_drew1) | exact HB.out))) : w.heap.size ≤ gb267)); have n3_ := Aside0.mk ((by rw [hg]; exact (below_size (by repeat (first | (with_reducible first | exact HB.out | apply below_alloc | apply pw_below_drewN | apply below_drew1) | exact HB.out))) : w.heap.size ≤ gb267)); clear HB; have HB := n0_; have BK267 := n1_; have GW267 := n2_; have GE267 := n3_; clear n0_ n1_ n2_ n3_; clear hb hbox hg))
  (try simp only [Act.put, List.setIfInBounds_toArray, List.set_cons_zero, List.set_cons_succ])
  go_cut [17] (fun v17 wc => ∃ (kq : Nat) (x17_1 : Bool), v17 = .bool x17_1 ∧ Aside0 (merkhetref01_May.j0 kq x17_1 a0_0 a0_1 a0_2 a0_3 a0_4 a0_5 a0_6 a0_7 = some r) ∧ Aside0 (kq ≤ k) ∧ Aside0 (wc.heap[gb267]? = some (.cells #[.int .u64 a0_0, .int .u64 a0_1, .int .u64 a0_2, .int .u8 a0_3, .string a0_4, .string a0_5, .int .i64 a0_6, .int .i64 a0_7] 77 (0, 0))) ∧ Aside0 (Below w.heap.size w wc))
  case first =>
    have H := HC2.out
    clear HC2
    by_cases c4 : a0_0 = 0
    · rw [if_pos c4] at H
      have c4b0 : (a0_0 == 0) = true := beq_iff_eq.mpr c4
      have c4b1 : (a0_0 != 0) = false := bne_eq_false_iff_eq.mpr c4
      clear c4
      (first | rw [c4b0] | (simp only [i64_w, i32_w]; rw [c4b0]) | skip)
      have H' := Aside0.mk H
      clear H
      have hcz5_0 : w3.cell? ⟨gb267, 0, none⟩ = some (.int .u64 a0_0) := (blk_cell BK267.out 0).trans rfl
      have hcz5_1 : w3.cell? ⟨gb267, 1, none⟩ = some (.int .u64 a0_1) := (blk_cell BK267.out 1).trans rfl
      have hcz5_2 : w3.cell? ⟨gb267, 2, none⟩ = some (.int .u64 a0_2) := (blk_cell BK267.out 2).trans rfl
      have hcz5_3 : w3.cell? ⟨gb267, 3, none⟩ = some (.int .u8 a0_3) := (blk_cell BK267.out 3).trans rfl
      have hcz5_4 : w3.cell? ⟨gb267, 4, none⟩ = some (.string a0_4) := (blk_cell BK267.out 4).trans rfl
      have hcz5_5 : w3.cell? ⟨gb267, 5, none⟩ = some (.string a0_5) := (blk_cell BK267.out 5).trans rfl
      have hcz5_6 : w3.cell? ⟨gb267, 6, none⟩ = some (.int .i64 a0_6) := (blk_cell BK267.out 6).trans rfl
      have hcz5_7 : w3.cell? ⟨gb267, 7, none⟩ = some (.int .i64 a0_7) := (blk_cell BK267.out 7).trans rfl
      have hfz5_0 := blk_frozen BK267.out 0
      have hfz5_1 := blk_frozen BK267.out 1
      have hfz5_2 := blk_frozen BK267.out 2
      have hfz5_3 := blk_frozen BK267.out 3
      have hfz5_4 := blk_frozen BK267.out 4
      have hfz5_5 := blk_frozen BK267.out 5
      have hfz5_6 := blk_frozen BK267.out 6
      have hfz5_7 := blk_frozen BK267.out 7
      go_wp2
      go_meet
      case rel => exact ⟨_, (true), (by first | rfl | (simp; done) | (simp [*]; done)), H', ⟨by first | omega | exact Nat.le_refl _⟩, ⟨by (with_reducible repeat (first | refine blk_drewN ?_ _ | refine blk_drew ?_ | refine blk_alloc ?_ _)); exact BK267.out⟩, ⟨by repeat (first | (with_reducible first | exact HB.out | apply below_alloc | apply pw_below_drewN | apply below_drew1 | refine below_set ?_ GE267.out) | exact HB.out)⟩⟩
    · rw [if_neg c4] at H
      have c4b0 : (a0_0 == 0) = false := beq_eq_false_iff_ne.mpr c4
      have c4b1 : (a0_0 != 0) = true := bne_iff_ne.mpr c4
      (first | rw [c4b0] | (simp only [i64_w, i32_w]; rw [c4b0]) | skip)
      by_cases c6 : a0_1 = 0
      · rw [if_pos c6] at H
        have c6b0 : (a0_1 == 0) = true := beq_iff_eq.mpr c6
        have c6b1 : (a0_1 != 0) = false := bne_eq_false_iff_eq.mpr c6
        clear c6
        have H' := Aside0.mk H
        clear H
        have hcz7_0 : w3.cell? ⟨gb267, 0, none⟩ = some (.int .u64 a0_0) := (blk_cell BK267.out 0).trans rfl
        have hcz7_1 : w3.cell? ⟨gb267, 1, none⟩ = some (.int .u64 a0_1) := (blk_cell BK267.out 1).trans rfl
        have hcz7_2 : w3.cell? ⟨gb267, 2, none⟩ = some (.int .u64 a0_2) := (blk_cell BK267.out 2).trans rfl
        have hcz7_3 : w3.cell? ⟨gb267, 3, none⟩ = some (.int .u8 a0_3) := (blk_cell BK267.out 3).trans rfl
        have hcz7_4 : w3.cell? ⟨gb267, 4, none⟩ = some (.string a0_4) := (blk_cell BK267.out 4).trans rfl
        have hcz7_5 : w3.cell? ⟨gb267, 5, none⟩ = some (.string a0_5) := (blk_cell BK267.out 5).trans rfl
        have hcz7_6 : w3.cell? ⟨gb267, 6, none⟩ = some (.int .i64 a0_6) := (blk_cell BK267.out 6).trans rfl
        have hcz7_7 : w3.cell? ⟨gb267, 7, none⟩ = some (.int .i64 a0_7) := (blk_cell BK267.out 7).trans rfl
        have hfz7_0 := blk_frozen BK267.out 0
        have hfz7_1 := blk_frozen BK267.out 1
        have hfz7_2 := blk_frozen BK267.out 2
        have hfz7_3 := blk_frozen BK267.out 3
        have hfz7_4 := blk_frozen BK267.out 4
        have hfz7_5 := blk_frozen BK267.out 5
        have hfz7_6 := blk_frozen BK267.out 6
        have hfz7_7 := blk_frozen BK267.out 7
        go_wp2
        go_meet
        case rel => exact ⟨_, (true), (by first | rfl | (simp; done) | (simp [*]; done)), H', ⟨by first | omega | exact Nat.le_refl _⟩, ⟨by (with_reducible repeat (first | refine blk_drewN ?_ _ | refine blk_drew ?_ | refine blk_alloc ?_ _)); exact BK267.out⟩, ⟨by repeat (first | (with_reducible first | exact HB.out | apply below_alloc | apply pw_below_drewN | apply below_drew1 | refine below_set ?_ GE267.out) | exact HB.out)⟩⟩
      · rw [if_neg c6] at H
        have c6b0 : (a0_1 == 0) = false := beq_eq_false_iff_ne.mpr c6
        have c6b1 : (a0_1 != 0) = true := bne_iff_ne.mpr c6
        have H' := Aside0.mk H
        clear H
        have hcz8_0 : w3.cell? ⟨gb267, 0, none⟩ = some (.int .u64 a0_0) := (blk_cell BK267.out 0).trans rfl
        have hcz8_1 : w3.cell? ⟨gb267, 1, none⟩ = some (.int .u64 a0_1) := (blk_cell BK267.out 1).trans rfl
        have hcz8_2 : w3.cell? ⟨gb267, 2, none⟩ = some (.int .u64 a0_2) := (blk_cell BK267.out 2).trans rfl
        have hcz8_3 : w3.cell? ⟨gb267, 3, none⟩ = some (.int .u8 a0_3) := (blk_cell BK267.out 3).trans rfl
        have hcz8_4 : w3.cell? ⟨gb267, 4, none⟩ = some (.string a0_4) := (blk_cell BK267.out 4).trans rfl
        have hcz8_5 : w3.cell? ⟨gb267, 5, none⟩ = some (.string a0_5) := (blk_cell BK267.out 5).trans rfl
        have hcz8_6 : w3.cell? ⟨gb267, 6, none⟩ = some (.int .i64 a0_6) := (blk_cell BK267.out 6).trans rfl
        have hcz8_7 : w3.cell? ⟨gb267, 7, none⟩ = some (.int .i64 a0_7) := (blk_cell BK267.out 7).trans rfl
        have hfz8_0 := blk_frozen BK267.out 0
        have hfz8_1 := blk_frozen BK267.out 1
        have hfz8_2 := blk_frozen BK267.out 2
        have hfz8_3 := blk_frozen BK267.out 3
        have hfz8_4 := blk_frozen BK267.out 4
        have hfz8_5 := blk_frozen BK267.out 5
        have hfz8_6 := blk_frozen BK267.out 6
        have hfz8_7 := blk_frozen BK267.out 7
        go_wp2
        go_meet
        case rel => exact ⟨_, ((a0_2 == a0_1)), (by first | rfl | (simp; done) | (simp [*]; done)), H', ⟨by first | omega | exact Nat.le_refl _⟩, ⟨by (with_reducible repeat (first | refine blk_drewN ?_ _ | refine blk_drew ?_ | refine blk_alloc ?_ _)); exact BK267.out⟩, ⟨by repeat (first | (with_reducible first | exact HB.out | apply below_alloc | apply pw_below_drewN | apply below_drew1 | refine below_set ?_ GE267.out) | exact HB.out)⟩⟩
  case rest =>
    clear HC2
    try clear p2
    try clear c4
    try clear c4b0
    try clear c4b1
    try clear c5
    try clear c6
    try clear c6b0
    try clear c6b1
    try clear hcz5_0
    try clear hcz5_1
    try clear hcz5_2
    try clear hcz5_3
    try clear hcz5_4
    try clear hcz5_5
    try clear hcz5_6
    try clear hcz5_7
    try clear hcz7_0
    try clear hcz7_1
    try clear hcz7_2
    try clear hcz7_3
    try clear hcz7_4
    try clear hcz7_5
    try clear hcz7_6
    try clear hcz7_7
    try clear hcz8_0
    try clear hcz8_1
    try clear hcz8_2
    try clear hcz8_3
    try clear hcz8_4
    try clear hcz8_5
    try clear hcz8_6
    try clear hcz8_7
    try clear hfz5_0
    try clear hfz5_1
    try clear hfz5_2
    try clear hfz5_3
    try clear hfz5_4
    try clear hfz5_5
    try clear hfz5_6
    try clear hfz5_7
    try clear hfz7_0
    try clear hfz7_1
    try clear hfz7_2
    try clear hfz7_3
    try clear hfz7_4
    try clear hfz7_5
    try clear hfz7_6
    try clear hfz7_7
    try clear hfz8_0
    try clear hfz8_1
    try clear hfz8_2
    try clear hfz8_3
    try clear hfz8_4
    try clear hfz8_5
    try clear hfz8_6
    try clear hfz8_7
    obtain ⟨kq, x17_1, rfl, HA, HJ1, BK267, HB⟩ := hcut
    cases kq with
    | zero => exact absurd HA.out (by simp [merkhetref01_May.j0])
    | succ kj1 =>
      have H := HA.out
      clear HA
      simp only [merkhetref01_May.j0] at H
      by_cases c9 : x17_1 = true
      · subst c9
        have H1 : (some false) = some r := by rw [if_pos rfl] at H; exact H
        clear H
        have H := H1
        clear H1
        obtain rfl := Option.some.inj H
        go_wp2
        go_ret
        exact ⟨by first | rfl | (simp [errW_none, errW_some] <;> rfl) | (simp [*, errW_none, errW_some] <;> rfl), by repeat (first | (with_reducible first | exact HB.out | apply below_alloc | apply pw_below_drewN | apply below_drew1 | refine below_set ?_ GE267.out) | exact HB.out)⟩
      · replace c9 := Bool.eq_false_iff.mpr c9
        subst c9
        have H1 : (if a0_3 = 0 then (merkhetref01_May.j1 kj1 false a0_0 a0_1 a0_2 a0_3 a0_4 a0_5 a0_6 a0_7) else (if a0_3 = 1 then (merkhetref01_May.j1 kj1 false a0_0 a0_1 a0_2 a0_3 a0_4 a0_5 a0_6 a0_7) else (merkhetref01_May.j1 kj1 (a0_3 != 2) a0_0 a0_1 a0_2 a0_3 a0_4 a0_5 a0_6 a0_7))) = some r := by rw [if_neg (show ¬ (false = true) by decide)] at H; exact H
        clear H
        have H := H1
        clear H1
        have HC10 := Aside0.mk H
        clear H
        go_upto_region 3 with (fail)
        go_cut [30] (fun v30 wc => ∃ (kq : Nat) (x30_9 : Bool), v30 = .bool x30_9 ∧ Aside0 (merkhetref01_May.j1 kq x30_9 a0_0 a0_1 a0_2 a0_3 a0_4 a0_5 a0_6 a0_7 = some r) ∧ Aside0 (kq ≤ kj1) ∧ Aside0 (wc.heap[gb267]? = some (.cells #[.int .u64 a0_0, .int .u64 a0_1, .int .u64 a0_2, .int .u8 a0_3, .string a0_4, .string a0_5, .int .i64 a0_6, .int .i64 a0_7] 77 (0, 0))) ∧ Aside0 (Below w.heap.size w wc))
        case first =>
          have H := HC10.out
          clear HC10
          by_cases c11 : a0_3 = 0
          · rw [if_pos c11] at H
            have c11b0 : (a0_3 == 0) = true := beq_iff_eq.mpr c11
            have c11b1 : (a0_3 != 0) = false := bne_eq_false_iff_eq.mpr c11
            clear c11
            (first | rw [c11b0] | (simp only [i64_w, i32_w]; rw [c11b0]) | skip)
            have H' := Aside0.mk H
            clear H
            have hcz12_0 : wc.cell? ⟨gb267, 0, none⟩ = some (.int .u64 a0_0) := (blk_cell BK267.out 0).trans rfl
            have hcz12_1 : wc.cell? ⟨gb267, 1, none⟩ = some (.int .u64 a0_1) := (blk_cell BK267.out 1).trans rfl
            have hcz12_2 : wc.cell? ⟨gb267, 2, none⟩ = some (.int .u64 a0_2) := (blk_cell BK267.out 2).trans rfl
            have hcz12_3 : wc.cell? ⟨gb267, 3, none⟩ = some (.int .u8 a0_3) := (blk_cell BK267.out 3).trans rfl
            have hcz12_4 : wc.cell? ⟨gb267, 4, none⟩ = some (.string a0_4) := (blk_cell BK267.out 4).trans rfl
            have hcz12_5 : wc.cell? ⟨gb267, 5, none⟩ = some (.string a0_5) := (blk_cell BK267.out 5).trans rfl
            have hcz12_6 : wc.cell? ⟨gb267, 6, none⟩ = some (.int .i64 a0_6) := (blk_cell BK267.out 6).trans rfl
            have hcz12_7 : wc.cell? ⟨gb267, 7, none⟩ = some (.int .i64 a0_7) := (blk_cell BK267.out 7).trans rfl
            have hfz12_0 := blk_frozen BK267.out 0
            have hfz12_1 := blk_frozen BK267.out 1
            have hfz12_2 := blk_frozen BK267.out 2
            have hfz12_3 := blk_frozen BK267.out 3
            have hfz12_4 := blk_frozen BK267.out 4
            have hfz12_5 := blk_frozen BK267.out 5
            have hfz12_6 := blk_frozen BK267.out 6
            have hfz12_7 := blk_frozen BK267.out 7
            go_wp2
            go_meet
            case rel => exact ⟨_, (false), (by first | rfl | (simp; done) | (simp [*]; done)), H', ⟨by have := HJ1.out; first | omega | exact Nat.le_refl _⟩, ⟨by (with_reducible repeat (first | refine blk_drewN ?_ _ | refine blk_drew ?_ | refine blk_alloc ?_ _)); exact BK267.out⟩, ⟨by repeat (first | (with_reducible first | exact HB.out | apply below_alloc | apply pw_below_drewN | apply below_drew1 | refine below_set ?_ GE267.out) | exact HB.out)⟩⟩
          · rw [if_neg c11] at H
            have c11b0 : (a0_3 == 0) = false := beq_eq_false_iff_ne.mpr c11
            have c11b1 : (a0_3 != 0) = true := bne_iff_ne.mpr c11
            (first | rw [c11b0] | (simp only [i64_w, i32_w]; rw [c11b0]) | skip)
            by_cases c13 : a0_3 = 1
            · rw [if_pos c13] at H
              have c13b0 : (a0_3 == 1) = true := beq_iff_eq.mpr c13
              have c13b1 : (a0_3 != 1) = false := bne_eq_false_iff_eq.mpr c13
              clear c13
              have H' := Aside0.mk H
              clear H
              have hcz14_0 : wc.cell? ⟨gb267, 0, none⟩ = some (.int .u64 a0_0) := (blk_cell BK267.out 0).trans rfl
              have hcz14_1 : wc.cell? ⟨gb267, 1, none⟩ = some (.int .u64 a0_1) := (blk_cell BK267.out 1).trans rfl
              have hcz14_2 : wc.cell? ⟨gb267, 2, none⟩ = some (.int .u64 a0_2) := (blk_cell BK267.out 2).trans rfl
              have hcz14_3 : wc.cell? ⟨gb267, 3, none⟩ = some (.int .u8 a0_3) := (blk_cell BK267.out 3).trans rfl
              have hcz14_4 : wc.cell? ⟨gb267, 4, none⟩ = some (.string a0_4) := (blk_cell BK267.out 4).trans rfl
              have hcz14_5 : wc.cell? ⟨gb267, 5, none⟩ = some (.string a0_5) := (blk_cell BK267.out 5).trans rfl
              have hcz14_6 : wc.cell? ⟨gb267, 6, none⟩ = some (.int .i64 a0_6) := (blk_cell BK267.out 6).trans rfl
              have hcz14_7 : wc.cell? ⟨gb267, 7, none⟩ = some (.int .i64 a0_7) := (blk_cell BK267.out 7).trans rfl
              have hfz14_0 := blk_frozen BK267.out 0
              have hfz14_1 := blk_frozen BK267.out 1
              have hfz14_2 := blk_frozen BK267.out 2
              have hfz14_3 := blk_frozen BK267.out 3
              have hfz14_4 := blk_frozen BK267.out 4
              have hfz14_5 := blk_frozen BK267.out 5
              have hfz14_6 := blk_frozen BK267.out 6
              have hfz14_7 := blk_frozen BK267.out 7
              go_wp2
              go_meet
              case rel => exact ⟨_, (false), (by first | rfl | (simp; done) | (simp [*]; done)), H', ⟨by have := HJ1.out; first | omega | exact Nat.le_refl _⟩, ⟨by (with_reducible repeat (first | refine blk_drewN ?_ _ | refine blk_drew ?_ | refine blk_alloc ?_ _)); exact BK267.out⟩, ⟨by repeat (first | (with_reducible first | exact HB.out | apply below_alloc | apply pw_below_drewN | apply below_drew1 | refine below_set ?_ GE267.out) | exact HB.out)⟩⟩
            · rw [if_neg c13] at H
              have c13b0 : (a0_3 == 1) = false := beq_eq_false_iff_ne.mpr c13
              have c13b1 : (a0_3 != 1) = true := bne_iff_ne.mpr c13
              have H' := Aside0.mk H
              clear H
              have hcz15_0 : wc.cell? ⟨gb267, 0, none⟩ = some (.int .u64 a0_0) := (blk_cell BK267.out 0).trans rfl
              have hcz15_1 : wc.cell? ⟨gb267, 1, none⟩ = some (.int .u64 a0_1) := (blk_cell BK267.out 1).trans rfl
              have hcz15_2 : wc.cell? ⟨gb267, 2, none⟩ = some (.int .u64 a0_2) := (blk_cell BK267.out 2).trans rfl
              have hcz15_3 : wc.cell? ⟨gb267, 3, none⟩ = some (.int .u8 a0_3) := (blk_cell BK267.out 3).trans rfl
              have hcz15_4 : wc.cell? ⟨gb267, 4, none⟩ = some (.string a0_4) := (blk_cell BK267.out 4).trans rfl
              have hcz15_5 : wc.cell? ⟨gb267, 5, none⟩ = some (.string a0_5) := (blk_cell BK267.out 5).trans rfl
              have hcz15_6 : wc.cell? ⟨gb267, 6, none⟩ = some (.int .i64 a0_6) := (blk_cell BK267.out 6).trans rfl
              have hcz15_7 : wc.cell? ⟨gb267, 7, none⟩ = some (.int .i64 a0_7) := (blk_cell BK267.out 7).trans rfl
              have hfz15_0 := blk_frozen BK267.out 0
              have hfz15_1 := blk_frozen BK267.out 1
              have hfz15_2 := blk_frozen BK267.out 2
              have hfz15_3 := blk_frozen BK267.out 3
              have hfz15_4 := blk_frozen BK267.out 4
              have hfz15_5 := blk_frozen BK267.out 5
              have hfz15_6 := blk_frozen BK267.out 6
              have hfz15_7 := blk_frozen BK267.out 7
              go_wp2
              go_meet
              case rel => exact ⟨_, ((a0_3 != 2)), (by first | rfl | (simp; done) | (simp [*]; done)), H', ⟨by have := HJ1.out; first | omega | exact Nat.le_refl _⟩, ⟨by (with_reducible repeat (first | refine blk_drewN ?_ _ | refine blk_drew ?_ | refine blk_alloc ?_ _)); exact BK267.out⟩, ⟨by repeat (first | (with_reducible first | exact HB.out | apply below_alloc | apply pw_below_drewN | apply below_drew1 | refine below_set ?_ GE267.out) | exact HB.out)⟩⟩
        case rest =>
          clear HC10
          try clear c1
          try clear p2
          try clear c4
          try clear c4b0
          try clear c4b1
          try clear c5
          try clear c6
          try clear c6b0
          try clear c6b1
          try clear c9
          try clear c11
          try clear c11b0
          try clear c11b1
          try clear c13
          try clear c13b0
          try clear c13b1
          try clear hcz12_0
          try clear hcz12_1
          try clear hcz12_2
          try clear hcz12_3
          try clear hcz12_4
          try clear hcz12_5
          try clear hcz12_6
          try clear hcz12_7
          try clear hcz14_0
          try clear hcz14_1
          try clear hcz14_2
          try clear hcz14_3
          try clear hcz14_4
          try clear hcz14_5
          try clear hcz14_6
          try clear hcz14_7
          try clear hcz15_0
          try clear hcz15_1
          try clear hcz15_2
          try clear hcz15_3
          try clear hcz15_4
          try clear hcz15_5
          try clear hcz15_6
          try clear hcz15_7
          try clear hcz5_0
          try clear hcz5_1
          try clear hcz5_2
          try clear hcz5_3
          try clear hcz5_4
          try clear hcz5_5
          try clear hcz5_6
          try clear hcz5_7
          try clear hcz7_0
          try clear hcz7_1
          try clear hcz7_2
          try clear hcz7_3
          try clear hcz7_4
          try clear hcz7_5
          try clear hcz7_6
          try clear hcz7_7
          try clear hcz8_0
          try clear hcz8_1
          try clear hcz8_2
          try clear hcz8_3
          try clear hcz8_4
          try clear hcz8_5
          try clear hcz8_6
          try clear hcz8_7
          try clear hfz12_0
          try clear hfz12_1
          try clear hfz12_2
          try clear hfz12_3
          try clear hfz12_4
          try clear hfz12_5
          try clear hfz12_6
          try clear hfz12_7
          try clear hfz14_0
          try clear hfz14_1
          try clear hfz14_2
          try clear hfz14_3
          try clear hfz14_4
          try clear hfz14_5
          try clear hfz14_6
          try clear hfz14_7
          try clear hfz15_0
          try clear hfz15_1
          try clear hfz15_2
          try clear hfz15_3
          try clear hfz15_4
          try clear hfz15_5
          try clear hfz15_6
          try clear hfz15_7
          try clear hfz5_0
          try clear hfz5_1
          try clear hfz5_2
          try clear hfz5_3
          try clear hfz5_4
          try clear hfz5_5
          try clear hfz5_6
          try clear hfz5_7
          try clear hfz7_0
          try clear hfz7_1
          try clear hfz7_2
          try clear hfz7_3
          try clear hfz7_4
          try clear hfz7_5
          try clear hfz7_6
          try clear hfz7_7
          try clear hfz8_0
          try clear hfz8_1
          try clear hfz8_2
          try clear hfz8_3
          try clear hfz8_4
          try clear hfz8_5
          try clear hfz8_6
          try clear hfz8_7
          try clear p2
          obtain ⟨kq, x30_9, rfl, HA, HJ9, BK267, HB⟩ := hcut
          cases kq with
          | zero => exact absurd HA.out (by simp [merkhetref01_May.j1])
          | succ kj9 =>
            have H := HA.out
            clear HA
            simp only [merkhetref01_May.j1] at H
            by_cases c16 : x30_9 = true
            · subst c16
              have H1 : (some false) = some r := by rw [if_pos rfl] at H; exact H
              clear H
              have H := H1
              clear H1
              obtain rfl := Option.some.inj H
              go_wp2
              go_ret
              exact ⟨by first | rfl | (simp [errW_none, errW_some] <;> rfl) | (simp [*, errW_none, errW_some] <;> rfl), by repeat (first | (with_reducible first | exact HB.out | apply below_alloc | apply pw_below_drewN | apply below_drew1 | refine below_set ?_ GE267.out) | exact HB.out)⟩
            · replace c16 := Bool.eq_false_iff.mpr c16
              subst c16
              have H1 : (if a0_6 < 0 then (merkhetref01_May.j2 kj9 true a0_0 a0_1 a0_2 a0_3 a0_4 a0_5 a0_6 a0_7) else (if a0_6 > 1125899906842623 then (merkhetref01_May.j2 kj9 true a0_0 a0_1 a0_2 a0_3 a0_4 a0_5 a0_6 a0_7) else (if a0_7 < 0 then (merkhetref01_May.j2 kj9 true a0_0 a0_1 a0_2 a0_3 a0_4 a0_5 a0_6 a0_7) else (merkhetref01_May.j2 kj9 (decide (a0_7 > 1125899906842624)) a0_0 a0_1 a0_2 a0_3 a0_4 a0_5 a0_6 a0_7)))) = some r := by rw [if_neg (show ¬ (false = true) by decide)] at H; exact H
              clear H
              have H := H1
              clear H1
              have HC17 := Aside0.mk H
              clear H
              go_upto_region 5 with (fail)
              go_cut [48] (fun v48 wc => ∃ (kq : Nat) (x48_16 : Bool), v48 = .bool x48_16 ∧ Aside0 (merkhetref01_May.j2 kq x48_16 a0_0 a0_1 a0_2 a0_3 a0_4 a0_5 a0_6 a0_7 = some r) ∧ Aside0 (kq ≤ kj9) ∧ Aside0 (wc.heap[gb267]? = some (.cells #[.int .u64 a0_0, .int .u64 a0_1, .int .u64 a0_2, .int .u8 a0_3, .string a0_4, .string a0_5, .int .i64 a0_6, .int .i64 a0_7] 77 (0, 0))) ∧ Aside0 (Below w.heap.size w wc))
              case first =>
                have H := HC17.out
                clear HC17
                by_cases c18 : a0_6 < 0
                · rw [if_pos c18] at H
                  have c18b0 : decide (a0_6 < 0) = true := decide_eq_true c18
                  clear c18
                  (first | rw [c18b0] | (simp only [i64_w, i32_w]; rw [c18b0]) | skip)
                  have H' := Aside0.mk H
                  clear H
                  have hcz19_0 : wc.cell? ⟨gb267, 0, none⟩ = some (.int .u64 a0_0) := (blk_cell BK267.out 0).trans rfl
                  have hcz19_1 : wc.cell? ⟨gb267, 1, none⟩ = some (.int .u64 a0_1) := (blk_cell BK267.out 1).trans rfl
                  have hcz19_2 : wc.cell? ⟨gb267, 2, none⟩ = some (.int .u64 a0_2) := (blk_cell BK267.out 2).trans rfl
                  have hcz19_3 : wc.cell? ⟨gb267, 3, none⟩ = some (.int .u8 a0_3) := (blk_cell BK267.out 3).trans rfl
                  have hcz19_4 : wc.cell? ⟨gb267, 4, none⟩ = some (.string a0_4) := (blk_cell BK267.out 4).trans rfl
                  have hcz19_5 : wc.cell? ⟨gb267, 5, none⟩ = some (.string a0_5) := (blk_cell BK267.out 5).trans rfl
                  have hcz19_6 : wc.cell? ⟨gb267, 6, none⟩ = some (.int .i64 a0_6) := (blk_cell BK267.out 6).trans rfl
                  have hcz19_7 : wc.cell? ⟨gb267, 7, none⟩ = some (.int .i64 a0_7) := (blk_cell BK267.out 7).trans rfl
                  have hfz19_0 := blk_frozen BK267.out 0
                  have hfz19_1 := blk_frozen BK267.out 1
                  have hfz19_2 := blk_frozen BK267.out 2
                  have hfz19_3 := blk_frozen BK267.out 3
                  have hfz19_4 := blk_frozen BK267.out 4
                  have hfz19_5 := blk_frozen BK267.out 5
                  have hfz19_6 := blk_frozen BK267.out 6
                  have hfz19_7 := blk_frozen BK267.out 7
                  go_wp2
                  go_meet
                  case rel => exact ⟨_, (true), (by first | rfl | (simp; done) | (simp [*]; done)), H', ⟨by have := HJ1.out; have := HJ9.out; first | omega | exact Nat.le_refl _⟩, ⟨by (with_reducible repeat (first | refine blk_drewN ?_ _ | refine blk_drew ?_ | refine blk_alloc ?_ _)); exact BK267.out⟩, ⟨by repeat (first | (with_reducible first | exact HB.out | apply below_alloc | apply pw_below_drewN | apply below_drew1 | refine below_set ?_ GE267.out) | exact HB.out)⟩⟩
                · rw [if_neg c18] at H
                  have c18b0 : decide (a0_6 < 0) = false := decide_eq_false c18
                  clear c18
                  (first | rw [c18b0] | (simp only [i64_w, i32_w]; rw [c18b0]) | skip)
                  by_cases c20 : a0_6 > 1125899906842623
                  · rw [if_pos c20] at H
                    have c20b0 : decide (1125899906842623 < a0_6) = true := decide_eq_true c20
                    clear c20
                    have H' := Aside0.mk H
                    clear H
                    have hcz21_0 : wc.cell? ⟨gb267, 0, none⟩ = some (.int .u64 a0_0) := (blk_cell BK267.out 0).trans rfl
                    have hcz21_1 : wc.cell? ⟨gb267, 1, none⟩ = some (.int .u64 a0_1) := (blk_cell BK267.out 1).trans rfl
                    have hcz21_2 : wc.cell? ⟨gb267, 2, none⟩ = some (.int .u64 a0_2) := (blk_cell BK267.out 2).trans rfl
                    have hcz21_3 : wc.cell? ⟨gb267, 3, none⟩ = some (.int .u8 a0_3) := (blk_cell BK267.out 3).trans rfl
                    have hcz21_4 : wc.cell? ⟨gb267, 4, none⟩ = some (.string a0_4) := (blk_cell BK267.out 4).trans rfl
                    have hcz21_5 : wc.cell? ⟨gb267, 5, none⟩ = some (.string a0_5) := (blk_cell BK267.out 5).trans rfl
                    have hcz21_6 : wc.cell? ⟨gb267, 6, none⟩ = some (.int .i64 a0_6) := (blk_cell BK267.out 6).trans rfl
                    have hcz21_7 : wc.cell? ⟨gb267, 7, none⟩ = some (.int .i64 a0_7) := (blk_cell BK267.out 7).trans rfl
                    have hfz21_0 := blk_frozen BK267.out 0
                    have hfz21_1 := blk_frozen BK267.out 1
                    have hfz21_2 := blk_frozen BK267.out 2
                    have hfz21_3 := blk_frozen BK267.out 3
                    have hfz21_4 := blk_frozen BK267.out 4
                    have hfz21_5 := blk_frozen BK267.out 5
                    have hfz21_6 := blk_frozen BK267.out 6
                    have hfz21_7 := blk_frozen BK267.out 7
                    go_wp2
                    go_meet
                    case rel => exact ⟨_, (true), (by first | rfl | (simp; done) | (simp [*]; done)), H', ⟨by have := HJ1.out; have := HJ9.out; first | omega | exact Nat.le_refl _⟩, ⟨by (with_reducible repeat (first | refine blk_drewN ?_ _ | refine blk_drew ?_ | refine blk_alloc ?_ _)); exact BK267.out⟩, ⟨by repeat (first | (with_reducible first | exact HB.out | apply below_alloc | apply pw_below_drewN | apply below_drew1 | refine below_set ?_ GE267.out) | exact HB.out)⟩⟩
                  · rw [if_neg c20] at H
                    have c20b0 : decide (1125899906842623 < a0_6) = false := decide_eq_false c20
                    clear c20
                    by_cases c22 : a0_7 < 0
                    · rw [if_pos c22] at H
                      have c22b0 : decide (a0_7 < 0) = true := decide_eq_true c22
                      clear c22
                      have H' := Aside0.mk H
                      clear H
                      have hcz23_0 : wc.cell? ⟨gb267, 0, none⟩ = some (.int .u64 a0_0) := (blk_cell BK267.out 0).trans rfl
                      have hcz23_1 : wc.cell? ⟨gb267, 1, none⟩ = some (.int .u64 a0_1) := (blk_cell BK267.out 1).trans rfl
                      have hcz23_2 : wc.cell? ⟨gb267, 2, none⟩ = some (.int .u64 a0_2) := (blk_cell BK267.out 2).trans rfl
                      have hcz23_3 : wc.cell? ⟨gb267, 3, none⟩ = some (.int .u8 a0_3) := (blk_cell BK267.out 3).trans rfl
                      have hcz23_4 : wc.cell? ⟨gb267, 4, none⟩ = some (.string a0_4) := (blk_cell BK267.out 4).trans rfl
                      have hcz23_5 : wc.cell? ⟨gb267, 5, none⟩ = some (.string a0_5) := (blk_cell BK267.out 5).trans rfl
                      have hcz23_6 : wc.cell? ⟨gb267, 6, none⟩ = some (.int .i64 a0_6) := (blk_cell BK267.out 6).trans rfl
                      have hcz23_7 : wc.cell? ⟨gb267, 7, none⟩ = some (.int .i64 a0_7) := (blk_cell BK267.out 7).trans rfl
                      have hfz23_0 := blk_frozen BK267.out 0
                      have hfz23_1 := blk_frozen BK267.out 1
                      have hfz23_2 := blk_frozen BK267.out 2
                      have hfz23_3 := blk_frozen BK267.out 3
                      have hfz23_4 := blk_frozen BK267.out 4
                      have hfz23_5 := blk_frozen BK267.out 5
                      have hfz23_6 := blk_frozen BK267.out 6
                      have hfz23_7 := blk_frozen BK267.out 7
                      go_wp2
                      go_meet
                      case rel => exact ⟨_, (true), (by first | rfl | (simp; done) | (simp [*]; done)), H', ⟨by have := HJ1.out; have := HJ9.out; first | omega | exact Nat.le_refl _⟩, ⟨by (with_reducible repeat (first | refine blk_drewN ?_ _ | refine blk_drew ?_ | refine blk_alloc ?_ _)); exact BK267.out⟩, ⟨by repeat (first | (with_reducible first | exact HB.out | apply below_alloc | apply pw_below_drewN | apply below_drew1 | refine below_set ?_ GE267.out) | exact HB.out)⟩⟩
                    · rw [if_neg c22] at H
                      have c22b0 : decide (a0_7 < 0) = false := decide_eq_false c22
                      clear c22
                      have H' := Aside0.mk H
                      clear H
                      have hcz24_0 : wc.cell? ⟨gb267, 0, none⟩ = some (.int .u64 a0_0) := (blk_cell BK267.out 0).trans rfl
                      have hcz24_1 : wc.cell? ⟨gb267, 1, none⟩ = some (.int .u64 a0_1) := (blk_cell BK267.out 1).trans rfl
                      have hcz24_2 : wc.cell? ⟨gb267, 2, none⟩ = some (.int .u64 a0_2) := (blk_cell BK267.out 2).trans rfl
                      have hcz24_3 : wc.cell? ⟨gb267, 3, none⟩ = some (.int .u8 a0_3) := (blk_cell BK267.out 3).trans rfl
                      have hcz24_4 : wc.cell? ⟨gb267, 4, none⟩ = some (.string a0_4) := (blk_cell BK267.out 4).trans rfl
                      have hcz24_5 : wc.cell? ⟨gb267, 5, none⟩ = some (.string a0_5) := (blk_cell BK267.out 5).trans rfl
                      have hcz24_6 : wc.cell? ⟨gb267, 6, none⟩ = some (.int .i64 a0_6) := (blk_cell BK267.out 6).trans rfl
                      have hcz24_7 : wc.cell? ⟨gb267, 7, none⟩ = some (.int .i64 a0_7) := (blk_cell BK267.out 7).trans rfl
                      have hfz24_0 := blk_frozen BK267.out 0
                      have hfz24_1 := blk_frozen BK267.out 1
                      have hfz24_2 := blk_frozen BK267.out 2
                      have hfz24_3 := blk_frozen BK267.out 3
                      have hfz24_4 := blk_frozen BK267.out 4
                      have hfz24_5 := blk_frozen BK267.out 5
                      have hfz24_6 := blk_frozen BK267.out 6
                      have hfz24_7 := blk_frozen BK267.out 7
                      go_wp2
                      go_meet
                      case rel => exact ⟨_, (decide (a0_7 > 1125899906842624)), (by first | rfl | (simp; done) | (simp [*]; done)), H', ⟨by have := HJ1.out; have := HJ9.out; first | omega | exact Nat.le_refl _⟩, ⟨by (with_reducible repeat (first | refine blk_drewN ?_ _ | refine blk_drew ?_ | refine blk_alloc ?_ _)); exact BK267.out⟩, ⟨by repeat (first | (with_reducible first | exact HB.out | apply below_alloc | apply pw_below_drewN | apply below_drew1 | refine below_set ?_ GE267.out) | exact HB.out)⟩⟩
              case rest =>
                clear HC17
                try clear c1
                try clear c2
                try clear p2
                try clear c4
                try clear c4b0
                try clear c4b1
                try clear c5
                try clear c6
                try clear c6b0
                try clear c6b1
                try clear c9
                try clear c11
                try clear c11b0
                try clear c11b1
                try clear c13
                try clear c13b0
                try clear c13b1
                try clear c16
                try clear c18
                try clear c18b0
                try clear c20
                try clear c20b0
                try clear c22
                try clear c22b0
                try clear hcz12_0
                try clear hcz12_1
                try clear hcz12_2
                try clear hcz12_3
                try clear hcz12_4
                try clear hcz12_5
                try clear hcz12_6
                try clear hcz12_7
                try clear hcz14_0
                try clear hcz14_1
                try clear hcz14_2
                try clear hcz14_3
                try clear hcz14_4
                try clear hcz14_5
                try clear hcz14_6
                try clear hcz14_7
                try clear hcz15_0
                try clear hcz15_1
                try clear hcz15_2
                try clear hcz15_3
                try clear hcz15_4
                try clear hcz15_5
                try clear hcz15_6
                try clear hcz15_7
                try clear hcz19_0
                try clear hcz19_1
                try clear hcz19_2
                try clear hcz19_3
                try clear hcz19_4
                try clear hcz19_5
                try clear hcz19_6
                try clear hcz19_7
                try clear hcz21_0
                try clear hcz21_1
                try clear hcz21_2
                try clear hcz21_3
                try clear hcz21_4
                try clear hcz21_5
                try clear hcz21_6
                try clear hcz21_7
                try clear hcz23_0
                try clear hcz23_1
                try clear hcz23_2
                try clear hcz23_3
                try clear hcz23_4
                try clear hcz23_5
                try clear hcz23_6
                try clear hcz23_7
                try clear hcz24_0
                try clear hcz24_1
                try clear hcz24_2
                try clear hcz24_3
                try clear hcz24_4
                try clear hcz24_5
                try clear hcz24_6
                try clear hcz24_7
                try clear hcz5_0
                try clear hcz5_1
                try clear hcz5_2
                try clear hcz5_3
                try clear hcz5_4
                try clear hcz5_5
                try clear hcz5_6
                try clear hcz5_7
                try clear hcz7_0
                try clear hcz7_1
                try clear hcz7_2
                try clear hcz7_3
                try clear hcz7_4
                try clear hcz7_5
                try clear hcz7_6
                try clear hcz7_7
                try clear hcz8_0
                try clear hcz8_1
                try clear hcz8_2
                try clear hcz8_3
                try clear hcz8_4
                try clear hcz8_5
                try clear hcz8_6
                try clear hcz8_7
                try clear hfz12_0
                try clear hfz12_1
                try clear hfz12_2
                try clear hfz12_3
                try clear hfz12_4
                try clear hfz12_5
                try clear hfz12_6
                try clear hfz12_7
                try clear hfz14_0
                try clear hfz14_1
                try clear hfz14_2
                try clear hfz14_3
                try clear hfz14_4
                try clear hfz14_5
                try clear hfz14_6
                try clear hfz14_7
                try clear hfz15_0
                try clear hfz15_1
                try clear hfz15_2
                try clear hfz15_3
                try clear hfz15_4
                try clear hfz15_5
                try clear hfz15_6
                try clear hfz15_7
                try clear hfz19_0
                try clear hfz19_1
                try clear hfz19_2
                try clear hfz19_3
                try clear hfz19_4
                try clear hfz19_5
                try clear hfz19_6
                try clear hfz19_7
                try clear hfz21_0
                try clear hfz21_1
                try clear hfz21_2
                try clear hfz21_3
                try clear hfz21_4
                try clear hfz21_5
                try clear hfz21_6
                try clear hfz21_7
                try clear hfz23_0
                try clear hfz23_1
                try clear hfz23_2
                try clear hfz23_3
                try clear hfz23_4
                try clear hfz23_5
                try clear hfz23_6
                try clear hfz23_7
                try clear hfz24_0
                try clear hfz24_1
                try clear hfz24_2
                try clear hfz24_3
                try clear hfz24_4
                try clear hfz24_5
                try clear hfz24_6
                try clear hfz24_7
                try clear hfz5_0
                try clear hfz5_1
                try clear hfz5_2
                try clear hfz5_3
                try clear hfz5_4
                try clear hfz5_5
                try clear hfz5_6
                try clear hfz5_7
                try clear hfz7_0
                try clear hfz7_1
                try clear hfz7_2
                try clear hfz7_3
                try clear hfz7_4
                try clear hfz7_5
                try clear hfz7_6
                try clear hfz7_7
                try clear hfz8_0
                try clear hfz8_1
                try clear hfz8_2
                try clear hfz8_3
                try clear hfz8_4
                try clear hfz8_5
                try clear hfz8_6
                try clear hfz8_7
                try clear p2
                obtain ⟨kq, x48_16, rfl, HA, HJ16, BK267, HB⟩ := hcut
                cases kq with
                | zero => exact absurd HA.out (by simp [merkhetref01_May.j2])
                | succ kj16 =>
                  have H := HA.out
                  clear HA
                  simp only [merkhetref01_May.j2] at H
                  by_cases c25 : x48_16 = true
                  · subst c25
                    have H1 : (some false) = some r := by rw [if_pos rfl] at H; exact H
                    clear H
                    have H := H1
                    clear H1
                    obtain rfl := Option.some.inj H
                    go_wp2
                    go_ret
                    exact ⟨by first | rfl | (simp [errW_none, errW_some] <;> rfl) | (simp [*, errW_none, errW_some] <;> rfl), by repeat (first | (with_reducible first | exact HB.out | apply below_alloc | apply pw_below_drewN | apply below_drew1 | refine below_set ?_ GE267.out) | exact HB.out)⟩
                  · replace c25 := Bool.eq_false_iff.mpr c25
                    subst c25
                    have H1 : ((merkhetref01_Name.f kj16 a0_4).bind fun t268 => (if t268 = true then ((merkhetref01_Name.f kj16 a0_5).bind fun t269 => (some t269)) else (some false))) = some r := by rw [if_neg (show ¬ (false = true) by decide)] at H; exact H
                    clear H
                    have H := H1
                    clear H1
                    replace H := Option.bind_eq_some_iff.mp H
                    obtain ⟨t268, A260, H⟩ := H
                    replace H : (if t268 = true then ((merkhetref01_Name.f kj16 a0_5).bind fun t269 => (some t269)) else (some false)) = some r := H
                    have A26 := Aside0.mk A260
                    clear A260
                    by_cases c27 : t268 = true
                    · subst c27
                      have H1 : ((merkhetref01_Name.f kj16 a0_5).bind fun t269 => (some t269)) = some r := by rw [if_pos rfl] at H; exact H
                      clear H
                      have H := H1
                      clear H1
                      replace H := Option.bind_eq_some_iff.mp H
                      obtain ⟨t269, A280, H⟩ := H
                      replace H : (some t269) = some r := H
                      have A28 := Aside0.mk A280
                      clear A280
                      obtain rfl := Option.some.inj H
                      have hcz29_0 : wc.cell? ⟨gb267, 0, none⟩ = some (.int .u64 a0_0) := (blk_cell BK267.out 0).trans rfl
                      have hcz29_1 : wc.cell? ⟨gb267, 1, none⟩ = some (.int .u64 a0_1) := (blk_cell BK267.out 1).trans rfl
                      have hcz29_2 : wc.cell? ⟨gb267, 2, none⟩ = some (.int .u64 a0_2) := (blk_cell BK267.out 2).trans rfl
                      have hcz29_3 : wc.cell? ⟨gb267, 3, none⟩ = some (.int .u8 a0_3) := (blk_cell BK267.out 3).trans rfl
                      have hcz29_4 : wc.cell? ⟨gb267, 4, none⟩ = some (.string a0_4) := (blk_cell BK267.out 4).trans rfl
                      have hcz29_5 : wc.cell? ⟨gb267, 5, none⟩ = some (.string a0_5) := (blk_cell BK267.out 5).trans rfl
                      have hcz29_6 : wc.cell? ⟨gb267, 6, none⟩ = some (.int .i64 a0_6) := (blk_cell BK267.out 6).trans rfl
                      have hcz29_7 : wc.cell? ⟨gb267, 7, none⟩ = some (.int .i64 a0_7) := (blk_cell BK267.out 7).trans rfl
                      have hfz29_0 := blk_frozen BK267.out 0
                      have hfz29_1 := blk_frozen BK267.out 1
                      have hfz29_2 := blk_frozen BK267.out 2
                      have hfz29_3 := blk_frozen BK267.out 3
                      have hfz29_4 := blk_frozen BK267.out 4
                      have hfz29_5 := blk_frozen BK267.out 5
                      have hfz29_6 := blk_frozen BK267.out 6
                      have hfz29_7 := blk_frozen BK267.out 7
                      go_wp2_with (first | ((with_reducible refine gate_callee (f := 66) rfl ?_); refine goesL_ (some 51) rfl rfl Try.func66 (by kernel_rfl) rfl #[.string a0_4] rfl (by (try simp only [List.map_toArray, List.map_cons, List.map_nil]); first | done | rfl | (simp only [List.length_drop, List.length_take]; rfl)) ?_; (with_reducible refine (merkhetref01_Name.calls kj16 a0_4 true _ A26.out).mono ?_); rintro e w' ⟨rfl, ⟨nd, rfl⟩⟩; refine ⟨_, rfl, ?_⟩) | (go_at_call 66; (with_reducible refine (merkhetref01_Name.calls kj16 a0_5 t269 _ A28.out).mono ?_); rintro e w' ⟨rfl, ⟨nd, rfl⟩⟩))
                      go_ret
                      exact ⟨by first | rfl | (simp [errW_none, errW_some] <;> rfl) | (simp [*, errW_none, errW_some] <;> rfl), by repeat (first | (with_reducible first | exact HB.out | apply below_alloc | apply pw_below_drewN | apply below_drew1 | refine below_set ?_ GE267.out) | exact HB.out)⟩
                    · replace c27 := Bool.eq_false_iff.mpr c27
                      subst c27
                      have H1 : (some false) = some r := by rw [if_neg (show ¬ (false = true) by decide)] at H; exact H
                      clear H
                      have H := H1
                      clear H1
                      obtain rfl := Option.some.inj H
                      have hcz30_0 : wc.cell? ⟨gb267, 0, none⟩ = some (.int .u64 a0_0) := (blk_cell BK267.out 0).trans rfl
                      have hcz30_1 : wc.cell? ⟨gb267, 1, none⟩ = some (.int .u64 a0_1) := (blk_cell BK267.out 1).trans rfl
                      have hcz30_2 : wc.cell? ⟨gb267, 2, none⟩ = some (.int .u64 a0_2) := (blk_cell BK267.out 2).trans rfl
                      have hcz30_3 : wc.cell? ⟨gb267, 3, none⟩ = some (.int .u8 a0_3) := (blk_cell BK267.out 3).trans rfl
                      have hcz30_4 : wc.cell? ⟨gb267, 4, none⟩ = some (.string a0_4) := (blk_cell BK267.out 4).trans rfl
                      have hcz30_5 : wc.cell? ⟨gb267, 5, none⟩ = some (.string a0_5) := (blk_cell BK267.out 5).trans rfl
                      have hcz30_6 : wc.cell? ⟨gb267, 6, none⟩ = some (.int .i64 a0_6) := (blk_cell BK267.out 6).trans rfl
                      have hcz30_7 : wc.cell? ⟨gb267, 7, none⟩ = some (.int .i64 a0_7) := (blk_cell BK267.out 7).trans rfl
                      have hfz30_0 := blk_frozen BK267.out 0
                      have hfz30_1 := blk_frozen BK267.out 1
                      have hfz30_2 := blk_frozen BK267.out 2
                      have hfz30_3 := blk_frozen BK267.out 3
                      have hfz30_4 := blk_frozen BK267.out 4
                      have hfz30_5 := blk_frozen BK267.out 5
                      have hfz30_6 := blk_frozen BK267.out 6
                      have hfz30_7 := blk_frozen BK267.out 7
                      go_wp2_with (first | ((with_reducible refine gate_callee (f := 66) rfl ?_); refine goesL_ (some 51) rfl rfl Try.func66 (by kernel_rfl) rfl #[.string a0_4] rfl (by (try simp only [List.map_toArray, List.map_cons, List.map_nil]); first | done | rfl | (simp only [List.length_drop, List.length_take]; rfl)) ?_; (with_reducible refine (merkhetref01_Name.calls kj16 a0_4 false _ A26.out).mono ?_); rintro e w' ⟨rfl, ⟨nd, rfl⟩⟩; refine ⟨_, rfl, ?_⟩))
                      go_ret
                      exact ⟨by first | rfl | (simp [errW_none, errW_some] <;> rfl) | (simp [*, errW_none, errW_some] <;> rfl), by repeat (first | (with_reducible first | exact HB.out | apply below_alloc | apply pw_below_drewN | apply below_drew1 | refine below_set ?_ GE267.out) | exact HB.out)⟩
end Go.Proofs.Ytdpodjgggicaoaa.SS
