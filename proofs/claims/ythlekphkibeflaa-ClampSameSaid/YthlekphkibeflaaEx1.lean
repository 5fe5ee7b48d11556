-- WRITTEN FOR THIS CLAIM by wip/tools/mp.py, a program of this project that drives the kit's print; the functions that the print does not take are this project's own texts.
import Derived.Test.YthlekphkibeflaaEx0
namespace Go.Proofs.Ythlekphkibeflaa.E
open Go.RowKit Go.Proofs.YthlekphkibeflaaW.PrintWords Go.Proofs.YthlekphkibeflaaW.PrintLast Go.Proofs.YthlekphkibeflaaW.PrintMore
attribute [local go_sem] max2_int min2_int max_two min_two max_three min_three max_four min_four   -- for this text's walks alone
set_option linter.unusedVariables false
set_option linter.unusedSimpArgs false

/-! ### merkhetlaw04_Great: function 8 -/
def merkhetlaw04_Great.l0 : Nat → List (S34) → Int → Int → Option (Bool)
  | 0, _, _, _ => none
  | k + 1, x8, x9, x10 => if x10 < x9 then (if 0 ≤ x10 then (if x10 < (x8.length : Int) then (if (((rd_T34 x8 x10).f4).size : Int) > 100 then (some true) else (if (((rd_T34 x8 x10).f5).size : Int) > 100 then (some true) else (merkhetlaw04_Great.l0 k x8 x9 (wrap64 (x10 + 1))))) else (none)) else (none)) else (some false)
def merkhetlaw04_Great.f (k : Nat) (l0 : List (S34)) : Option (Bool) := if (l0.length : Int) > 60 then (some true) else (merkhetlaw04_Great.l0 k l0 (l0.length : Int) 0)
theorem merkhetlaw04_Great.mono_l : ∀ k, (∀ y0 y1 y2, LeO (merkhetlaw04_Great.l0 k y0 y1 y2) (merkhetlaw04_Great.l0 (k + 1) y0 y1 y2))
  | 0 => fun _ _ _ r h => by simp [merkhetlaw04_Great.l0] at h
  | k + 1 => by
    have ih0 := merkhetlaw04_Great.mono_l k
    · intro y0 y1 y2
      unfold merkhetlaw04_Great.l0
      repeat' first
      | (with_reducible exact ih0 _ _ _)
      | (with_reducible exact LeO.refl _)
      | (with_reducible exact LeO.none _)
      | (with_reducible refine LeO.ite ?_ ?_)
      | (with_reducible refine LeO.bind ?_ (fun _ => ?_))
      | exact ih0 _ _ _
      | exact LeO.none _
      | refine LeO.ite ?_ ?_
      | refine LeO.bind ?_ (fun _ => ?_)
theorem merkhetlaw04_Great.mono : ∀ a0 k, LeO (merkhetlaw04_Great.f k a0) (merkhetlaw04_Great.f (k + 1) a0) := by
  intro a0 k
  have ih0 := merkhetlaw04_Great.mono_l k
  unfold merkhetlaw04_Great.f
  repeat' first
      | (with_reducible exact ih0 _ _ _)
      | (with_reducible exact LeO.refl _)
      | (with_reducible exact LeO.none _)
      | (with_reducible refine LeO.ite ?_ ?_)
      | (with_reducible refine LeO.bind ?_ (fun _ => ?_))
      | exact ih0 _ _ _
      | exact LeO.none _
      | refine LeO.ite ?_ ?_
      | refine LeO.bind ?_ (fun _ => ?_)
set_option maxHeartbeats 8000000 in
set_option maxRecDepth 100000 in
theorem merkhetlaw04_Great.calls (k : Nat) (A0 : Option Addr) (c0 : Nat) (l0 : List (S34)) (r : Bool) (w : World) (hr0 : Kd.C k34 w A0 l0.length l0) (hc0 : l0.length ≤ c0) (h : merkhetlaw04_Great.f k l0 = some r) :
    Calls Try.prog 8 #[.slice A0 l0.length c0] w fun e w' => e = .returned (.bool r) ∧ Below w.heap.size w w' := by
  have hu34 := Try.underlying34
  have HR0 := Aside0.mk hr0
  have HC0 := Aside0.mk hc0
  clear hr0 hc0
  have HB := Aside0.mk (Below.refl w.heap.size w)
  have H : (if (l0.length : Int) > 60 then (some true) else (merkhetlaw04_Great.l0 k l0 (l0.length : Int) 0)) = some r := h
  clear h
  by_cases c2 : (l0.length : Int) > 60
  · rw [if_pos c2] at H
    have c2b0 : decide (60 < (l0.length : Int)) = true := decide_eq_true c2
    have c2b1 : decide (60 < l0.length) = true := decide_eq_true (by omega)
    clear c2
    obtain rfl := Option.some.inj H
    go_enter Try.func8, Try.ntmps8
    go_wp2
    go_ret
    exact ⟨by first | rfl | (simp [errW_none, errW_some] <;> rfl) | (simp [*, errW_none, errW_some] <;> rfl), by repeat (first | (with_reducible first | exact HB.out | apply below_alloc | apply pw_below_drewN | apply below_drew1) | exact HB.out)⟩
  · rw [if_neg c2] at H
    have c2b0 : decide (60 < (l0.length : Int)) = false := decide_eq_false c2
    have c2b1 : decide (60 < l0.length) = false := decide_eq_false (by omega)
    clear c2
    have H' := Aside0.mk H
    clear H
    go_enter Try.func8, Try.ntmps8
    go_wp2
    go_loopg [10] k (fun kq v10 w' => ∃ (x10_1 : Int), v10 = .int .i64 x10_1 ∧ Aside0 (merkhetlaw04_Great.l0 kq l0 (l0.length : Int) x10_1 = some r) ∧ Aside0 (kq ≤ k) ∧ Aside0 (Below w.heap.size w w'))
    case atStart => exact ⟨(0), (by first | rfl | (simp; done) | (simp [*]; done)), H', ⟨Nat.le_refl _⟩, ⟨by repeat (first | (with_reducible first | exact HB.out | apply below_alloc | apply pw_below_drewN | apply below_drew1) | exact HB.out)⟩⟩
    case round =>
      clear H'
      try clear c2
      try clear c2b0
      try clear c2b1
      try clear p2
      obtain ⟨x10_1, rfl, HA, HK1, HB⟩ := hrel
      cases gk with
      | zero => exact absurd HA.out (by simp [merkhetlaw04_Great.l0])
      | succ k1 =>
        have H := HA.out
        clear HA
        simp only [merkhetlaw04_Great.l0] at H
        by_cases c3 : x10_1 < (l0.length : Int)
        · rw [if_pos c3] at H
          have c3b0 : decide (x10_1 < (l0.length : Int)) = true := decide_eq_true c3
          clear c3
          by_cases c4 : 0 ≤ x10_1
          · rw [if_pos c4] at H
            have c4b0 : decide (0 ≤ x10_1) = true := decide_eq_true c4
            clear c4
            by_cases c5 : x10_1 < (l0.length : Int)
            · rw [if_pos c5] at H
              have c5b0 : decide (x10_1 < (l0.length : Int)) = true := decide_eq_true c5
              clear c5
              by_cases c6 : (((rd_T34 l0 x10_1).f4).size : Int) > 100
              · rw [if_pos c6] at H
                have c6b0 : decide (100 < (((rd_T34 l0 x10_1).f4).size : Int)) = true := decide_eq_true c6
                have c6b1 : decide (100 < ((rd_T34 l0 x10_1).f4).size) = true := decide_eq_true (by omega)
                clear c6
                obtain rfl := Option.some.inj H
                have p101 : 0 ≤ (x10_1 : Int) := of_decide_eq_true (by first | (with_reducible assumption) | assumption)
                have q101 : x10_1 < (l0.length : Int) := of_decide_eq_true (by first | (with_reducible assumption) | assumption)
                obtain ⟨ad101, e101, hx101_0, hx101_1, hx101_2, hx101_3, hx101_4, hx101_5, hx101_6, hx101_7⟩ := at_T34 HR0.out x10_1 p101 q101
                cases e101
                replace hx101_0 := (HB.out.cell (World.block_lt_of_cell? w _ hx101_0)).trans hx101_0
                replace hx101_1 := (HB.out.cell (World.block_lt_of_cell? w _ hx101_1)).trans hx101_1
                replace hx101_2 := (HB.out.cell (World.block_lt_of_cell? w _ hx101_2)).trans hx101_2
                replace hx101_3 := (HB.out.cell (World.block_lt_of_cell? w _ hx101_3)).trans hx101_3
                replace hx101_4 := (HB.out.cell (World.block_lt_of_cell? w _ hx101_4)).trans hx101_4
                replace hx101_5 := (HB.out.cell (World.block_lt_of_cell? w _ hx101_5)).trans hx101_5
                replace hx101_6 := (HB.out.cell (World.block_lt_of_cell? w _ hx101_6)).trans hx101_6
                replace hx101_7 := (HB.out.cell (World.block_lt_of_cell? w _ hx101_7)).trans hx101_7
                replace p101 := eq_true p101
                replace q101 := eq_true q101
                go_wp2_with (first | ((with_reducible refine gate_dst (N := 4) rfl ?_); (try (refine gate_guard (by rfl) ?_; dsimp only)); refine box_event ?hg (N := 4) ?hd (cs := #[.int .u64 0, .int .u64 0, .int .u64 0, .int .u8 0, .string (⟨#[]⟩ : ByteArray), .string (⟨#[]⟩ : ByteArray), .int .i64 0, .int .i64 0]) (t := 34) ?hr ?_; (case hd => rfl); (case hg => rfl); (case hr => first | (go_simp; done) | (go_simp; rfl)); intro gb102 hg w7 hbox hb; have n0_ := Aside0.mk (below_step (by repeat (first | (with_reducible first | exact HB.out | apply below_alloc | apply pw_below_drewN | apply below_drew1) | exact HB.out)) hb); have n1_ := Aside0.mk (hbox); have n2_ := Aside0.mk ((by rw [hg]; exact (below_size (by repeat (first | (with_reducible first | exact HB.out | apply below_alloc | apply pw_below_drewN | apply below_drew1) | exact HB.out))) : w.heap.size ≤ gb102)); have n3_ := Aside0.mk ((by rw [hg]; exact (below_size (by repeat (first | (with_reducible first | exact HB.out | apply below_alloc | apply pw_below_drewN | apply below_drew1) | exact HB.out))) : w.heap.size ≤ gb102)); clear HB; have HB := n0_; have BK102 := n1_; have GW102 := n2_; have GE102 := n3_; clear n0_ n1_ n2_ n3_; clear hb hbox hg; have hcz8_0 : w7.cell? ⟨gb102, 0, none⟩ = some (.int .u64 0) := (blk_cell BK102.out 0).trans rfl; have hcz8_1 : w7.cell? ⟨gb102, 1, none⟩ = some (.int .u64 0) := (blk_cell BK102.out 1).trans rfl; have hcz8_2 : w7.cell? ⟨gb102, 2, none⟩ = some (.int .u64 0) := (blk_cell BK102.out 2).trans rfl; have hcz8_3 : w7.cell? ⟨gb102, 3, none⟩ = some (.int .u8 0) := (blk_cell BK102.out 3).trans rfl; have hcz8_4 : w7.cell? ⟨gb102, 4, none⟩ = some (.string (⟨#[]⟩ : ByteArray)) := (blk_cell BK102.out 4).trans rfl; have hcz8_5 : w7.cell? ⟨gb102, 5, none⟩ = some (.string (⟨#[]⟩ : ByteArray)) := (blk_cell BK102.out 5).trans rfl; have hcz8_6 : w7.cell? ⟨gb102, 6, none⟩ = some (.int .i64 0) := (blk_cell BK102.out 6).trans rfl; have hcz8_7 : w7.cell? ⟨gb102, 7, none⟩ = some (.int .i64 0) := (blk_cell BK102.out 7).trans rfl; have hfz8_0 := blk_frozen BK102.out 0; have hfz8_1 := blk_frozen BK102.out 1; have hfz8_2 := blk_frozen BK102.out 2; have hfz8_3 := blk_frozen BK102.out 3; have hfz8_4 := blk_frozen BK102.out 4; have hfz8_5 := blk_frozen BK102.out 5; have hfz8_6 := blk_frozen BK102.out 6; have hfz8_7 := blk_frozen BK102.out 7))
                go_ret
                exact ⟨by first | rfl | (simp [errW_none, errW_some] <;> rfl) | (simp [*, errW_none, errW_some] <;> rfl), by repeat (first | (with_reducible first | exact HB.out | apply below_alloc | apply pw_below_drewN | apply below_drew1 | refine below_set ?_ GE102.out) | exact HB.out)⟩
              · rw [if_neg c6] at H
                have c6b0 : decide (100 < (((rd_T34 l0 x10_1).f4).size : Int)) = false := decide_eq_false c6
                have c6b1 : decide (100 < ((rd_T34 l0 x10_1).f4).size) = false := decide_eq_false (by omega)
                clear c6
                by_cases c9 : (((rd_T34 l0 x10_1).f5).size : Int) > 100
                · rw [if_pos c9] at H
                  have c9b0 : decide (100 < (((rd_T34 l0 x10_1).f5).size : Int)) = true := decide_eq_true c9
                  have c9b1 : decide (100 < ((rd_T34 l0 x10_1).f5).size) = true := decide_eq_true (by omega)
                  clear c9
                  obtain rfl := Option.some.inj H
                  have p101 : 0 ≤ (x10_1 : Int) := of_decide_eq_true (by first | (with_reducible assumption) | assumption)
                  have q101 : x10_1 < (l0.length : Int) := of_decide_eq_true (by first | (with_reducible assumption) | assumption)
                  obtain ⟨ad101, e101, hx101_0, hx101_1, hx101_2, hx101_3, hx101_4, hx101_5, hx101_6, hx101_7⟩ := at_T34 HR0.out x10_1 p101 q101
                  cases e101
                  replace hx101_0 := (HB.out.cell (World.block_lt_of_cell? w _ hx101_0)).trans hx101_0
                  replace hx101_1 := (HB.out.cell (World.block_lt_of_cell? w _ hx101_1)).trans hx101_1
                  replace hx101_2 := (HB.out.cell (World.block_lt_of_cell? w _ hx101_2)).trans hx101_2
                  replace hx101_3 := (HB.out.cell (World.block_lt_of_cell? w _ hx101_3)).trans hx101_3
                  replace hx101_4 := (HB.out.cell (World.block_lt_of_cell? w _ hx101_4)).trans hx101_4
                  replace hx101_5 := (HB.out.cell (World.block_lt_of_cell? w _ hx101_5)).trans hx101_5
                  replace hx101_6 := (HB.out.cell (World.block_lt_of_cell? w _ hx101_6)).trans hx101_6
                  replace hx101_7 := (HB.out.cell (World.block_lt_of_cell? w _ hx101_7)).trans hx101_7
                  replace p101 := eq_true p101
                  replace q101 := eq_true q101
                  go_wp2_with (first | ((with_reducible refine gate_dst (N := 4) rfl ?_); (try (refine gate_guard (by rfl) ?_; dsimp only)); refine box_event ?hg (N := 4) ?hd (cs := #[.int .u64 0, .int .u64 0, .int .u64 0, .int .u8 0, .string (⟨#[]⟩ : ByteArray), .string (⟨#[]⟩ : ByteArray), .int .i64 0, .int .i64 0]) (t := 34) ?hr ?_; (case hd => rfl); (case hg => rfl); (case hr => first | (go_simp; done) | (go_simp; rfl)); intro gb102 hg w10 hbox hb; have n0_ := Aside0.mk (below_step (by repeat (first | (with_reducible first | exact HB.out | apply below_alloc | apply pw_below_drewN | apply below_drew1) | exact HB.out)) hb); have n1_ := Aside0.mk (hbox); have n2_ := Aside0.mk ((by rw [hg]; exact (below_size (by repeat (first | (with_reducible first | exact HB.out | apply below_alloc | apply pw_below_drewN | apply below_drew1) | exact HB.out))) : w.heap.size ≤ gb102)); have n3_ := Aside0.mk ((by rw [hg]; exact (below_size (by repeat (first | (with_reducible first | exact HB.out | apply below_alloc | apply pw_below_drewN | apply below_drew1) | exact HB.out))) : w.heap.size ≤ gb102)); clear HB; have HB := n0_; have BK102 := n1_; have GW102 := n2_; have GE102 := n3_; clear n0_ n1_ n2_ n3_; clear hb hbox hg; have hcz11_0 : w10.cell? ⟨gb102, 0, none⟩ = some (.int .u64 0) := (blk_cell BK102.out 0).trans rfl; have hcz11_1 : w10.cell? ⟨gb102, 1, none⟩ = some (.int .u64 0) := (blk_cell BK102.out 1).trans rfl; have hcz11_2 : w10.cell? ⟨gb102, 2, none⟩ = some (.int .u64 0) := (blk_cell BK102.out 2).trans rfl; have hcz11_3 : w10.cell? ⟨gb102, 3, none⟩ = some (.int .u8 0) := (blk_cell BK102.out 3).trans rfl; have hcz11_4 : w10.cell? ⟨gb102, 4, none⟩ = some (.string (⟨#[]⟩ : ByteArray)) := (blk_cell BK102.out 4).trans rfl; have hcz11_5 : w10.cell? ⟨gb102, 5, none⟩ = some (.string (⟨#[]⟩ : ByteArray)) := (blk_cell BK102.out 5).trans rfl; have hcz11_6 : w10.cell? ⟨gb102, 6, none⟩ = some (.int .i64 0) := (blk_cell BK102.out 6).trans rfl; have hcz11_7 : w10.cell? ⟨gb102, 7, none⟩ = some (.int .i64 0) := (blk_cell BK102.out 7).trans rfl; have hfz11_0 := blk_frozen BK102.out 0; have hfz11_1 := blk_frozen BK102.out 1; have hfz11_2 := blk_frozen BK102.out 2; have hfz11_3 := blk_frozen BK102.out 3; have hfz11_4 := blk_frozen BK102.out 4; have hfz11_5 := blk_frozen BK102.out 5; have hfz11_6 := blk_frozen BK102.out 6; have hfz11_7 := blk_frozen BK102.out 7))
                  go_ret
                  exact ⟨by first | rfl | (simp [errW_none, errW_some] <;> rfl) | (simp [*, errW_none, errW_some] <;> rfl), by repeat (first | (with_reducible first | exact HB.out | apply below_alloc | apply pw_below_drewN | apply below_drew1 | refine below_set ?_ GE102.out) | exact HB.out)⟩
                · rw [if_neg c9] at H
                  have c9b0 : decide (100 < (((rd_T34 l0 x10_1).f5).size : Int)) = false := decide_eq_false c9
                  have c9b1 : decide (100 < ((rd_T34 l0 x10_1).f5).size) = false := decide_eq_false (by omega)
                  clear c9
                  have H' := Aside0.mk H
                  clear H
                  have p101 : 0 ≤ (x10_1 : Int) := of_decide_eq_true (by first | (with_reducible assumption) | assumption)
                  have q101 : x10_1 < (l0.length : Int) := of_decide_eq_true (by first | (with_reducible assumption) | assumption)
                  obtain ⟨ad101, e101, hx101_0, hx101_1, hx101_2, hx101_3, hx101_4, hx101_5, hx101_6, hx101_7⟩ := at_T34 HR0.out x10_1 p101 q101
                  cases e101
                  replace hx101_0 := (HB.out.cell (World.block_lt_of_cell? w _ hx101_0)).trans hx101_0
                  replace hx101_1 := (HB.out.cell (World.block_lt_of_cell? w _ hx101_1)).trans hx101_1
                  replace hx101_2 := (HB.out.cell (World.block_lt_of_cell? w _ hx101_2)).trans hx101_2
                  replace hx101_3 := (HB.out.cell (World.block_lt_of_cell? w _ hx101_3)).trans hx101_3
                  replace hx101_4 := (HB.out.cell (World.block_lt_of_cell? w _ hx101_4)).trans hx101_4
                  replace hx101_5 := (HB.out.cell (World.block_lt_of_cell? w _ hx101_5)).trans hx101_5
                  replace hx101_6 := (HB.out.cell (World.block_lt_of_cell? w _ hx101_6)).trans hx101_6
                  replace hx101_7 := (HB.out.cell (World.block_lt_of_cell? w _ hx101_7)).trans hx101_7
                  replace p101 := eq_true p101
                  replace q101 := eq_true q101
                  go_wp2_with (first | ((with_reducible refine gate_dst (N := 4) rfl ?_); (try (refine gate_guard (by rfl) ?_; dsimp only)); refine box_event ?hg (N := 4) ?hd (cs := #[.int .u64 0, .int .u64 0, .int .u64 0, .int .u8 0, .string (⟨#[]⟩ : ByteArray), .string (⟨#[]⟩ : ByteArray), .int .i64 0, .int .i64 0]) (t := 34) ?hr ?_; (case hd => rfl); (case hg => rfl); (case hr => first | (go_simp; done) | (go_simp; rfl)); intro gb102 hg w12 hbox hb; have n0_ := Aside0.mk (below_step (by repeat (first | (with_reducible first | exact HB.out | apply below_alloc | apply pw_below_drewN | apply below_drew1) | exact HB.out)) hb); have n1_ := Aside0.mk (hbox); have n2_ := Aside0.mk ((by rw [hg]; exact (below_size (by repeat (first | (with_reducible first | exact HB.out | apply below_alloc | apply pw_below_drewN | apply below_drew1) | exact HB.out))) : w.heap.size ≤ gb102)); have n3_ := Aside0.mk ((by rw [hg]; exact (below_size (by repeat (first | (with_reducible first | exact HB.out | apply below_alloc | apply pw_below_drewN | apply below_drew1) | exact HB.out))) : w.heap.size ≤ gb102)); clear HB; have HB := n0_; have BK102 := n1_; have GW102 := n2_; have GE102 := n3_; clear n0_ n1_ n2_ n3_; clear hb hbox hg; have hcz13_0 : w12.cell? ⟨gb102, 0, none⟩ = some (.int .u64 0) := (blk_cell BK102.out 0).trans rfl; have hcz13_1 : w12.cell? ⟨gb102, 1, none⟩ = some (.int .u64 0) := (blk_cell BK102.out 1).trans rfl; have hcz13_2 : w12.cell? ⟨gb102, 2, none⟩ = some (.int .u64 0) := (blk_cell BK102.out 2).trans rfl; have hcz13_3 : w12.cell? ⟨gb102, 3, none⟩ = some (.int .u8 0) := (blk_cell BK102.out 3).trans rfl; have hcz13_4 : w12.cell? ⟨gb102, 4, none⟩ = some (.string (⟨#[]⟩ : ByteArray)) := (blk_cell BK102.out 4).trans rfl; have hcz13_5 : w12.cell? ⟨gb102, 5, none⟩ = some (.string (⟨#[]⟩ : ByteArray)) := (blk_cell BK102.out 5).trans rfl; have hcz13_6 : w12.cell? ⟨gb102, 6, none⟩ = some (.int .i64 0) := (blk_cell BK102.out 6).trans rfl; have hcz13_7 : w12.cell? ⟨gb102, 7, none⟩ = some (.int .i64 0) := (blk_cell BK102.out 7).trans rfl; have hfz13_0 := blk_frozen BK102.out 0; have hfz13_1 := blk_frozen BK102.out 1; have hfz13_2 := blk_frozen BK102.out 2; have hfz13_3 := blk_frozen BK102.out 3; have hfz13_4 := blk_frozen BK102.out 4; have hfz13_5 := blk_frozen BK102.out 5; have hfz13_6 := blk_frozen BK102.out 6; have hfz13_7 := blk_frozen BK102.out 7))
                  go_roundg k1
                  case measure => have := HK1.out; omega
                  case rel => exact ⟨(wrap64 (x10_1 + 1)), (by first | rfl | (simp; done) | (simp [*]; done)), H', ⟨by have := HK1.out; omega⟩, ⟨by repeat (first | (with_reducible first | exact HB.out | apply below_alloc | apply pw_below_drewN | apply below_drew1 | refine below_set ?_ GE102.out) | exact HB.out)⟩⟩
            · rw [if_neg c5] at H
              exact absurd H (by simp)
          · rw [if_neg c4] at H
            exact absurd H (by simp)
        · rw [if_neg c3] at H
          have c3b0 : decide (x10_1 < (l0.length : Int)) = false := decide_eq_false c3
          clear c3
          obtain rfl := Option.some.inj H
          go_wp2
          go_ret
          exact ⟨by first | rfl | (simp [errW_none, errW_some] <;> rfl) | (simp [*, errW_none, errW_some] <;> rfl), by repeat (first | (with_reducible first | exact HB.out | apply below_alloc | apply pw_below_drewN | apply below_drew1) | exact HB.out)⟩

/-! ### parent_cycles: function 38 -/
set_option maxHeartbeats 8000000 in
set_option maxRecDepth 100000 in
theorem parent_cycles.calls (k : Nat) (A0 : Option Addr) (c0 : Nat) (l0 : List Int) (fs : List Int) (g : Nat) (lb : Array Value) (eg : ∀ args w, (callFunc g args).run Try.prog w = .ok (.enter g args) w) (w : World) (St : Nat → List Int → World → Prop)
    (hI : ∀ W G, Below w.heap.size w W → w.heap.size ≤ G → St G [] W)
    (hS : ∀ G fs' W W', St G fs' W → W.grownBy W' (some G) → St G fs' W')
    (hC : ∀ G fs' W, St G fs' W → Kd.C (Kd.int .i64) W A0 l0.length l0)
    (hF : ∀ G fs' a rest W, fs = fs' ++ a :: rest → St G fs' W → G < W.heap.size → Calls Try.prog g (#[.int .i64 a] ++ lb) W fun e w' => e = .returned (.tuple #[]) ∧ St G (fs' ++ [a]) w' ∧ W.heap.size ≤ w'.heap.size ∧ w'.heap[G]? = W.heap[G]?)
    (hn : l0.length ≤ 1000000) (hc0 : l0.length ≤ c0)
    (h : Go.Proofs.Ythlekphkibeflaa.H.cyclesF k l0 = some fs) :
    Calls Try.prog 38 #[.slice A0 l0.length c0, .func (.func g) #[] lb] w fun e w' => e = .returned (.tuple #[]) ∧ ∃ G, St G fs w' := by
  have hmk := print_make (P := Try.prog) 23 3 .i64 8 Try.underlying23 info3 (by decide) l0.length (by omega)
  have HI := Aside0.mk (hI (w.alloc (.cells (madeCells #[.int .i64 0] l0.length) 3)) w.heap.size (below_alloc (Below.refl _ _) _) (Nat.le_refl _))
  have HS := Aside0.mk hS
  have HC := Aside0.mk hC
  have HF := Aside0.mk hF
  have HH := Aside0.mk h
  clear hI hS hC hF h
  go_enter Try.func38, Try.ntmps38
  go_wp2
  go_loopg [12] l0.length (fun d v12 wr => ∃ (i : Nat) (st fs' : List Int), i + d = l0.length ∧ v12 = .int .i64 i ∧ Aside0 (Go.Proofs.Ythlekphkibeflaa.H.outF l0 k d st fs' = some fs) ∧ Aside0 (Go.Proofs.Ythlekphkibeflaa.H.rowI wr w.heap.size 3 st) ∧ Aside0 (st.length = l0.length) ∧ Aside0 (St w.heap.size fs' wr))
  case atStart => exact ⟨0, List.replicate l0.length 0, [], by omega, rfl, HH, ⟨Go.Proofs.Ythlekphkibeflaa.H.rowI_made _ _ _⟩, ⟨by simp⟩, HI⟩
  case round =>
    obtain ⟨i, st, fs', hi, rfl, HO, HR, HL, HT⟩ := hrel
    by_cases hlt : i < l0.length
    · obtain ⟨d, rfl⟩ : ∃ d, gk = d + 1 := ⟨gk - 1, by omega⟩
      have ho := HO.out
      unfold Go.Proofs.Ythlekphkibeflaa.H.outF at ho
      rw [show l0.length - (d + 1) = i by omega] at ho
      obtain ⟨⟨st1, f⟩, hw, ho⟩ := Option.bind_eq_some_iff.mp ho
      obtain ⟨st2, hb, ho⟩ := Option.bind_eq_some_iff.mp ho
      have HW := Aside0.mk hw
      have HB := Aside0.mk hb
      have HO2 := Aside0.mk ho
      clear hw hb ho HO
      have hltz : (i : Int) < (l0.length : Int) := by omega
      go_wp2
      go_step3
      go_wp2
      go_step3
      go_upto_block 2 with fail
      go_cut [12] (fun v12 wc => v12 = .int .i64 i ∧ Aside0 (Go.Proofs.Ythlekphkibeflaa.H.rowI wc w.heap.size 3 st1) ∧ Aside0 (st1.length = l0.length) ∧ Aside0 (St w.heap.size (fs' ++ f.toList) wc))
      case first =>
        have hpre : ∀ a, f = some a → ∃ rest, fs = fs' ++ a :: rest := fun a e => by
          obtain ⟨rest, hr⟩ := Go.Proofs.Ythlekphkibeflaa.H.outF_prefix d st2 _ fs HO2.out
          exact ⟨rest, by rw [hr, e]; simp⟩
        have HPRE := Aside0.mk hpre
        clear hpre
        go_wp2_with (fail)
        go_loopg [6] k (fun kq v6 wr => ∃ (a : Int) (st' : List Int), v6 = .int .i64 a ∧ Aside0 (Go.Proofs.Ythlekphkibeflaa.H.walkF l0 kq st' a = some (st1, f)) ∧ Aside0 (Go.Proofs.Ythlekphkibeflaa.H.rowI wr w.heap.size 3 st') ∧ Aside0 (st'.length = l0.length) ∧ Aside0 (St w.heap.size fs' wr))
        case atStart => exact ⟨i, st, rfl, HW, HR, HL, HT⟩
        case round =>
          obtain ⟨a, st', rfl, HWq, HRq, HLq, HTq⟩ := hrel
          cases gk with
          | zero => exact absurd HWq.out (by simp [Go.Proofs.Ythlekphkibeflaa.H.walkF])
          | succ kq =>
            have hw := HWq.out
            unfold Go.Proofs.Ythlekphkibeflaa.H.walkF at hw
            clear HWq
            by_cases c1 : a < 0
            · rw [if_pos c1] at hw
              obtain ⟨rfl, rfl⟩ := Prod.mk.inj (Option.some.inj hw)
              clear hw
              go_wp2_with (fail)
              go_meet
              exact ⟨rfl, HRq, HLq, ⟨by rw [show (none : Option Int).toList = [] from rfl, List.append_nil]; exact HTq.out⟩⟩
            · rw [if_neg c1] at hw
              by_cases c2 : a < (st'.length : Int)
              case neg => rw [if_neg c2] at hw; cases hw
              rw [if_pos c2] at hw
              have ha0 : 0 ≤ a := by omega
              have hcell := Go.Proofs.Ythlekphkibeflaa.H.rowI_cell HRq.out a ha0 c2
              have hfr := Go.Proofs.Ythlekphkibeflaa.H.rowI_frozen HRq.out a.toNat
              have ha1 : a < (l0.length : Int) := by rw [← HLq.out]; exact c2
              clear c1 c2
              by_cases c3 : st'.getD a.toNat 0 = 2
              · rw [if_pos c3] at hw
                obtain ⟨rfl, rfl⟩ := Prod.mk.inj (Option.some.inj hw)
                clear hw
                rw [c3] at hcell
                clear c3
                go_wp2_with (fail)
                go_meet
                exact ⟨rfl, HRq, HLq, ⟨by rw [show (none : Option Int).toList = [] from rfl, List.append_nil]; exact HTq.out⟩⟩
              · rw [if_neg c3] at hw
                by_cases c4 : st'.getD a.toNat 0 = 1
                · rw [if_pos c4] at hw
                  obtain ⟨rfl, rfl⟩ := Prod.mk.inj (Option.some.inj hw)
                  clear hw c3
                  rw [c4] at hcell
                  clear c4
                  obtain ⟨rest, hrest⟩ := HPRE.out a rfl
                  have hcall := HF.out w.heap.size fs' a rest wr hrest HTq.out (Go.Proofs.Ythlekphkibeflaa.H.rowI_lt HRq.out)
                  have HCALL := Aside0.mk hcall
                  clear hrest hcall
                  go_wp2_with (go_at_fn g; refine HCALL.out.mono ?_; rintro e w' ⟨rfl, ht, hsz, hsame⟩)
                  go_meet
                  exact ⟨rfl, ⟨Go.Proofs.Ythlekphkibeflaa.H.rowI_same HRq.out hsame⟩, HLq, ⟨ht⟩⟩
                · rw [if_neg c4, if_pos ha1] at hw
                  have hv2 : (st'.getD a.toNat 0 == 2) = false := by simpa using c3
                  have hv1 : (st'.getD a.toNat 0 == 1) = false := by simpa using c4
                  generalize st'.getD a.toNat 0 = v at hcell hv2 hv1
                  clear c3 c4
                  have HTn := Aside0.mk (HS.out _ _ _ _ HTq.out (Go.Proofs.Ythlekphkibeflaa.H.grown_set wr w.heap.size a.toNat (.int .i64 1)))
                  obtain ⟨ad, e, hx⟩ := Kd.at_int (HC.out _ _ _ HTn.out) a ha0 ha1
                  cases e
                  have HWn := Aside0.mk hw
                  clear hw
                  go_wp2_with (fail)
                  go_roundg kq
                  case measure => omega
                  case rel => exact ⟨_, st'.set a.toNat 1, rfl, HWn, ⟨Go.Proofs.Ythlekphkibeflaa.H.rowI_set HRq.out _ _⟩, ⟨by rw [List.length_set]; exact HLq.out⟩, HTn⟩
      case rest =>
        clear HW HR HL HT
        obtain ⟨rfl, HR1, HL1, HT1⟩ := hcut
        go_wp2_with (fail)
        go_loopg [6] k (fun kq v6 wr => ∃ (a : Int) (st' : List Int), v6 = .int .i64 a ∧ Aside0 (Go.Proofs.Ythlekphkibeflaa.H.backF l0 kq st' a = some st2) ∧ Aside0 (Go.Proofs.Ythlekphkibeflaa.H.rowI wr w.heap.size 3 st') ∧ Aside0 (st'.length = l0.length) ∧ Aside0 (St w.heap.size (fs' ++ f.toList) wr))
        case atStart => exact ⟨i, st1, rfl, HB, HR1, HL1, HT1⟩
        case round =>
          obtain ⟨a, st', rfl, HWq, HRq, HLq, HTq⟩ := hrel
          cases gk with
          | zero => exact absurd HWq.out (by simp [Go.Proofs.Ythlekphkibeflaa.H.backF])
          | succ kq =>
            have hw := HWq.out
            unfold Go.Proofs.Ythlekphkibeflaa.H.backF at hw
            clear HWq
            by_cases c1 : a < 0
            · rw [if_pos c1] at hw
              obtain rfl := Option.some.inj hw
              clear hw
              have hge : decide (0 ≤ a) = false := by simpa using c1
              go_wp2_with (fail)
              rw [Exit.noGoto_normal]
              go_wp2_with (fail)
              go_roundg d
              case measure => omega
              case rel => exact ⟨i + 1, st', fs' ++ f.toList, by omega, by go_num, HO2, HRq, HLq, HTq⟩
            · rw [if_neg c1] at hw
              by_cases c2 : a < (st'.length : Int)
              case neg => rw [if_neg c2] at hw; cases hw
              rw [if_pos c2] at hw
              have ha0 : 0 ≤ a := by omega
              have hcell := Go.Proofs.Ythlekphkibeflaa.H.rowI_cell HRq.out a ha0 c2
              have hfr := Go.Proofs.Ythlekphkibeflaa.H.rowI_frozen HRq.out a.toNat
              have ha1 : a < (l0.length : Int) := by rw [← HLq.out]; exact c2
              clear c1 c2
              by_cases c4 : st'.getD a.toNat 0 = 1
              · rw [if_pos c4, if_pos ha1] at hw
                rw [c4] at hcell
                clear c4
                have HTn := Aside0.mk (HS.out _ _ _ _ HTq.out (Go.Proofs.Ythlekphkibeflaa.H.grown_set wr w.heap.size a.toNat (.int .i64 2)))
                obtain ⟨ad, e, hx⟩ := Kd.at_int (HC.out _ _ _ HTn.out) a ha0 ha1
                cases e
                have HWn := Aside0.mk hw
                clear hw
                go_wp2_with (fail)
                go_roundg kq
                case measure => omega
                case rel => exact ⟨_, st'.set a.toNat 2, rfl, HWn, ⟨Go.Proofs.Ythlekphkibeflaa.H.rowI_set HRq.out _ _⟩, ⟨by rw [List.length_set]; exact HLq.out⟩, HTn⟩
              · rw [if_neg c4] at hw
                obtain rfl := Option.some.inj hw
                clear hw
                have hv1 : (st'.getD a.toNat 0 == 1) = false := by simpa using c4
                generalize st'.getD a.toNat 0 = v at hcell hv1
                clear c4
                go_wp2_with (fail)
                rw [Exit.noGoto_normal]
                go_wp2_with (fail)
                go_roundg d
                case measure => omega
                case rel => exact ⟨i + 1, st', fs' ++ f.toList, by omega, by go_num, HO2, HRq, HLq, HTq⟩
    · have hltz : ¬ (i : Int) < (l0.length : Int) := by omega
      obtain rfl : gk = 0 := by omega
      have he := Option.some.inj (show some fs' = some fs from HO.out)
      subst he
      go_wp2_with (fail)
      go_end0
      exact ⟨rfl, _, HT.out⟩


/-! ### parent_Right: function 28 -/
def parent_Right.f (k : Nat) (l0 : List Int) : Option Bool := if l0.length ≤ 1000000 then (if Go.Proofs.Ythlekphkibeflaa.H.okB l0 = true then (Go.Proofs.Ythlekphkibeflaa.H.cyclesF k l0).map (fun fs => fs.isEmpty) else some false) else none
theorem parent_Right.mono : ∀ a0 k, LeO (parent_Right.f k a0) (parent_Right.f (k + 1) a0) := by
  intro a0 k
  unfold parent_Right.f
  exact LeO.ite (LeO.ite (LeO.map _ (Go.Proofs.Ythlekphkibeflaa.H.cyclesF_mono k a0)) (LeO.refl _)) (LeO.refl _)
set_option maxHeartbeats 8000000 in
set_option maxRecDepth 100000 in
theorem parent_Right_found (R : Nat) (a : Int) (b : Bool) (W : World) (hb : W.heap[R]? = some (.cells #[.bool b] 4 (0, 0))) :
    Calls Try.prog 39 #[.int .i64 a, .pointer (some ⟨R, 0, none⟩)] W fun e w' => e = .returned (.tuple #[]) ∧ w' = W.setCell ⟨R, 0, none⟩ (.bool false) := by
  have hc : W.cell? ⟨R, 0, none⟩ = some (.bool b) := (blk_cell hb 0).trans rfl
  have hf := blk_frozen hb 0
  go_enter Try.func39, Try.ntmps39
  go_wp2
  go_end0
  exact ⟨rfl, rfl⟩
structure parent_Right_St (w : World) (R G : Nat) (fs : List Int) (W : World) : Prop where
  below : Below w.heap.size w W
  far : w.heap.size ≤ R
  lt : R < G
  blk : W.heap[R]? = some (.cells #[.bool fs.isEmpty] 4 (0, 0))
set_option maxHeartbeats 8000000 in
set_option maxRecDepth 100000 in
theorem parent_Right.calls (k : Nat) (A0 : Option Addr) (c0 : Nat) (l0 : List Int) (r : Bool) (w : World) (hr0 : Kd.C (Kd.int .i64) w A0 l0.length l0) (hc0 : l0.length ≤ c0) (h : parent_Right.f k l0 = some r) :
    Calls Try.prog 28 #[.slice A0 l0.length c0] w fun e w' => e = .returned (.bool r) ∧ Below w.heap.size w w' := by
  unfold parent_Right.f at h
  by_cases hn : l0.length ≤ 1000000
  case neg => rw [if_neg hn] at h; cases h
  rw [if_pos hn] at h
  have HR := Aside0.mk hr0
  have HB := Aside0.mk (Below.refl w.heap.size w)
  have HH := Aside0.mk h
  have HC := Aside0.mk hc0
  clear h hr0 hc0
  have hmf : ∀ (fn : Fn) (first cap : Array Value) (w : World), (Instr.makeFunc fn first cap).run Try.prog w = .ok (.func fn first cap) w := fun _ _ _ _ => rfl
  have hcyc : ∀ fs, Go.Proofs.Ythlekphkibeflaa.H.cyclesF k l0 = some fs → Calls Try.prog 38 #[.slice A0 l0.length c0, .func (.func 39) #[] #[.pointer (some ⟨w.heap.size, 0, none⟩)]] (w.alloc (.cells #[.bool true] 4 (0, 0))) fun e w' => e = .returned (.tuple #[]) ∧ ∃ G, parent_Right_St w w.heap.size G fs w' := fun fs hfs =>
    parent_cycles.calls k A0 c0 l0 fs 39 #[.pointer (some ⟨w.heap.size, 0, none⟩)] (fun args w => enters_ (P := Try.prog) Try.func39 (by kernel_rfl) rfl args w) _ (parent_Right_St w w.heap.size)
      (fun W G hb hg => ⟨below_step (below_alloc (Below.refl _ _) _) hb, Nat.le_refl _, by simp at hg; omega, blk_below (blk_new _ _) hb⟩)
      (fun G fs' W W' hs hg => ⟨pw_below_grown hs.below (some G) hs.below.size hg (fun k_ e => by have := Option.some.inj e; have := hs.lt; omega), hs.far, hs.lt, blk_grown hs.blk hg (by have := hs.lt; simp; omega)⟩)
      (fun G fs' W hs => Kd.C_below HR.out hs.below)
      (fun G fs' a rest W _ hs hlt => (parent_Right_found w.heap.size a _ W hs.blk).mono fun e w' ⟨he, hw⟩ => ⟨he, by subst hw; exact ⟨below_set hs.below (Nat.le_refl _), hs.far, hs.lt, by rw [show (fs' ++ [a]).isEmpty = false by simp]; exact blk_set hs.blk 0 (.bool false)⟩, by subst hw; simp, by subst hw; exact Below.heap_setCell W _ _ G (by have := hs.lt; simp; omega)⟩)
      hn HC.out hfs
  have HCYC := Aside0.mk hcyc
  clear hcyc
  go_enter Try.func28, Try.ntmps28
  go_wp2
  go_loopg [8] l0.length (fun d v8 wr => ∃ (i : Nat), i + d = l0.length ∧ v8 = .int .i64 i ∧ w = wr ∧ Aside0 (∀ j, j < i → -1 ≤ l0.getD j 0 ∧ l0.getD j 0 < (l0.length : Int)))
  case atStart => exact ⟨0, by omega, rfl, rfl, ⟨fun j hj => absurd hj (Nat.not_lt_zero _)⟩⟩
  case round =>
    obtain ⟨i, hi, rfl, rfl, HN⟩ := hrel
    by_cases hlt : i < l0.length
    · have hltz : (i : Int) < (l0.length : Int) := by omega
      obtain ⟨ad, e, hx⟩ := Kd.at_int HR.out (i : Int) (by omega) hltz
      cases e
      have hv : rd l0 (i : Int) = l0.getD i 0 := by unfold rd; rw [Int.toNat_natCast]
      rw [hv, Int.toNat_natCast] at hx
      have HV := Aside0.mk hv
      clear hv
      by_cases hq : -1 ≤ l0.getD i 0 ∧ l0.getD i 0 < (l0.length : Int)
      · have h1 : decide (l0.getD i 0 < -1) = false := decide_eq_false (by omega)
        have h2 : decide ((l0.length : Int) ≤ l0.getD i 0) = false := decide_eq_false (by omega)
        have HQ := Aside0.mk hq
        generalize hz : l0.getD i 0 = z at hx h1 h2
        have HZ := Aside0.mk hz
        clear hz hq
        go_wp2
        go_roundg (gk - 1)
        case measure => omega
        case rel => exact ⟨i + 1, by omega, by go_num, rfl, ⟨fun j hj => by
          rcases Nat.lt_or_ge j i with h3 | h3
          · exact HN.out j h3
          · obtain rfl : j = i := by omega
            exact HQ.out⟩⟩
      · have HF := Aside0.mk (Go.Proofs.Ythlekphkibeflaa.H.okB_false hlt hq)
        have hr : r = false := by
          have hh := HH.out
          rw [if_neg (by rw [HF.out]; decide)] at hh
          exact (Option.some.inj hh).symm
        subst hr
        have HQ := Aside0.mk hq
        by_cases h1 : l0.getD i 0 < -1
        · have h1b : decide (l0.getD i 0 < -1) = true := decide_eq_true h1
          generalize l0.getD i 0 = z at hx h1b
          clear hq h1
          go_wp2
          go_ret
          exact ⟨rfl, HB.out⟩
        · have h1b : decide (l0.getD i 0 < -1) = false := decide_eq_false h1
          have h2b : decide ((l0.length : Int) ≤ l0.getD i 0) = true := decide_eq_true (by omega)
          generalize l0.getD i 0 = z at hx h1b h2b
          clear hq h1
          go_wp2
          go_ret
          exact ⟨rfl, HB.out⟩
    · have hltz : ¬ (i : Int) < (l0.length : Int) := by omega
      have HF := Aside0.mk (Go.Proofs.Ythlekphkibeflaa.H.okB_true (p := l0) (fun j hj => HN.out j (by omega)))
      have hh := HH.out
      rw [if_pos HF.out] at hh
      obtain ⟨fs, hfs, hr⟩ := Option.map_eq_some_iff.mp hh
      have HFS := Aside0.mk (HCYC.out fs hfs)
      have HRR := Aside0.mk hr
      clear hh hfs hr HCYC
      go_wp2_with (go_at_call 38; refine HFS.out.mono ?_; rintro e w2 ⟨rfl, G, hs⟩; have hc2 : w2.cell? ⟨w.heap.size, 0, none⟩ = some (.bool fs.isEmpty) := (blk_cell hs.blk 0).trans rfl)
      go_ret
      exact ⟨by first | rfl | (rw [← HRR.out]; rfl), hs.below⟩


/-! ### span_letter: function 42 -/
def span_letter.f (a0 : Int) : Option (Bool) := if a0 ≥ 97 then (if a0 ≤ 122 then (some true) else (if a0 ≥ 48 then (if a0 ≤ 57 then (some true) else (if a0 = 45 then (some true) else (if a0 = 46 then (some true) else (some (a0 == 95))))) else (if a0 = 45 then (some true) else (if a0 = 46 then (some true) else (some (a0 == 95)))))) else (if a0 ≥ 48 then (if a0 ≤ 57 then (some true) else (if a0 = 45 then (some true) else (if a0 = 46 then (some true) else (some (a0 == 95))))) else (if a0 = 45 then (some true) else (if a0 = 46 then (some true) else (some (a0 == 95)))))
set_option maxHeartbeats 8000000 in
set_option maxRecDepth 100000 in
theorem span_letter.calls (a0 : Int) (r : Bool) (w : World) (h : span_letter.f a0 = some r) :
    Calls Try.prog 42 #[.int .u8 a0] w fun e w' => e = .returned (.bool r) ∧ Drawn0 w w' := by
  have H : (if a0 ≥ 97 then (if a0 ≤ 122 then (some true) else (if a0 ≥ 48 then (if a0 ≤ 57 then (some true) else (if a0 = 45 then (some true) else (if a0 = 46 then (some true) else (some (a0 == 95))))) else (if a0 = 45 then (some true) else (if a0 = 46 then (some true) else (some (a0 == 95)))))) else (if a0 ≥ 48 then (if a0 ≤ 57 then (some true) else (if a0 = 45 then (some true) else (if a0 = 46 then (some true) else (some (a0 == 95))))) else (if a0 = 45 then (some true) else (if a0 = 46 then (some true) else (some (a0 == 95)))))) = some r := h
  clear h
  by_cases c2 : a0 ≥ 97
  · rw [if_pos c2] at H
    have c2b0 : decide (97 ≤ a0) = true := decide_eq_true c2
    clear c2
    by_cases c3 : a0 ≤ 122
    · rw [if_pos c3] at H
      have c3b0 : decide (a0 ≤ 122) = true := decide_eq_true c3
      clear c3
      obtain rfl := Option.some.inj H
      go_enter Try.func42, Try.ntmps42
      go_wp2
      go_ret
      exact ⟨by first | rfl | (simp; done) | (simp [*]; done), by repeat (first | exact Drawn0.refl _ | apply Drawn0.step)⟩
    · rw [if_neg c3] at H
      have c3b0 : decide (a0 ≤ 122) = false := decide_eq_false c3
      clear c3
      by_cases c4 : a0 ≥ 48
      · rw [if_pos c4] at H
        have c4b0 : decide (48 ≤ a0) = true := decide_eq_true c4
        clear c4
        by_cases c5 : a0 ≤ 57
        · rw [if_pos c5] at H
          have c5b0 : decide (a0 ≤ 57) = true := decide_eq_true c5
          clear c5
          obtain rfl := Option.some.inj H
          go_enter Try.func42, Try.ntmps42
          go_wp2
          go_ret
          exact ⟨by first | rfl | (simp; done) | (simp [*]; done), by repeat (first | exact Drawn0.refl _ | apply Drawn0.step)⟩
        · rw [if_neg c5] at H
          have c5b0 : decide (a0 ≤ 57) = false := decide_eq_false c5
          clear c5
          by_cases c6 : a0 = 45
          · rw [if_pos c6] at H
            have c6b0 : (a0 == 45) = true := beq_iff_eq.mpr c6
            have c6b1 : (a0 != 45) = false := bne_eq_false_iff_eq.mpr c6
            clear c6
            obtain rfl := Option.some.inj H
            go_enter Try.func42, Try.ntmps42
            go_wp2
            go_ret
            exact ⟨by first | rfl | (simp; done) | (simp [*]; done), by repeat (first | exact Drawn0.refl _ | apply Drawn0.step)⟩
          · rw [if_neg c6] at H
            have c6b0 : (a0 == 45) = false := beq_eq_false_iff_ne.mpr c6
            have c6b1 : (a0 != 45) = true := bne_iff_ne.mpr c6
            by_cases c7 : a0 = 46
            · rw [if_pos c7] at H
              have c7b0 : (a0 == 46) = true := beq_iff_eq.mpr c7
              have c7b1 : (a0 != 46) = false := bne_eq_false_iff_eq.mpr c7
              clear c7
              obtain rfl := Option.some.inj H
              go_enter Try.func42, Try.ntmps42
              go_wp2
              go_ret
              exact ⟨by first | rfl | (simp; done) | (simp [*]; done), by repeat (first | exact Drawn0.refl _ | apply Drawn0.step)⟩
            · rw [if_neg c7] at H
              have c7b0 : (a0 == 46) = false := beq_eq_false_iff_ne.mpr c7
              have c7b1 : (a0 != 46) = true := bne_iff_ne.mpr c7
              obtain rfl := Option.some.inj H
              go_enter Try.func42, Try.ntmps42
              go_wp2
              go_ret
              exact ⟨by first | rfl | (simp; done) | (simp [*]; done), by repeat (first | exact Drawn0.refl _ | apply Drawn0.step)⟩
      · rw [if_neg c4] at H
        have c4b0 : decide (48 ≤ a0) = false := decide_eq_false c4
        clear c4
        by_cases c8 : a0 = 45
        · rw [if_pos c8] at H
          have c8b0 : (a0 == 45) = true := beq_iff_eq.mpr c8
          have c8b1 : (a0 != 45) = false := bne_eq_false_iff_eq.mpr c8
          clear c8
          obtain rfl := Option.some.inj H
          go_enter Try.func42, Try.ntmps42
          go_wp2
          go_ret
          exact ⟨by first | rfl | (simp; done) | (simp [*]; done), by repeat (first | exact Drawn0.refl _ | apply Drawn0.step)⟩
        · rw [if_neg c8] at H
          have c8b0 : (a0 == 45) = false := beq_eq_false_iff_ne.mpr c8
          have c8b1 : (a0 != 45) = true := bne_iff_ne.mpr c8
          by_cases c9 : a0 = 46
          · rw [if_pos c9] at H
            have c9b0 : (a0 == 46) = true := beq_iff_eq.mpr c9
            have c9b1 : (a0 != 46) = false := bne_eq_false_iff_eq.mpr c9
            clear c9
            obtain rfl := Option.some.inj H
            go_enter Try.func42, Try.ntmps42
            go_wp2
            go_ret
            exact ⟨by first | rfl | (simp; done) | (simp [*]; done), by repeat (first | exact Drawn0.refl _ | apply Drawn0.step)⟩
          · rw [if_neg c9] at H
            have c9b0 : (a0 == 46) = false := beq_eq_false_iff_ne.mpr c9
            have c9b1 : (a0 != 46) = true := bne_iff_ne.mpr c9
            obtain rfl := Option.some.inj H
            go_enter Try.func42, Try.ntmps42
            go_wp2
            go_ret
            exact ⟨by first | rfl | (simp; done) | (simp [*]; done), by repeat (first | exact Drawn0.refl _ | apply Drawn0.step)⟩
  · rw [if_neg c2] at H
    have c2b0 : decide (97 ≤ a0) = false := decide_eq_false c2
    clear c2
    by_cases c10 : a0 ≥ 48
    · rw [if_pos c10] at H
      have c10b0 : decide (48 ≤ a0) = true := decide_eq_true c10
      clear c10
      by_cases c11 : a0 ≤ 57
      · rw [if_pos c11] at H
        have c11b0 : decide (a0 ≤ 57) = true := decide_eq_true c11
        clear c11
        obtain rfl := Option.some.inj H
        go_enter Try.func42, Try.ntmps42
        go_wp2
        go_ret
        exact ⟨by first | rfl | (simp; done) | (simp [*]; done), by repeat (first | exact Drawn0.refl _ | apply Drawn0.step)⟩
      · rw [if_neg c11] at H
        have c11b0 : decide (a0 ≤ 57) = false := decide_eq_false c11
        clear c11
        by_cases c12 : a0 = 45
        · rw [if_pos c12] at H
          have c12b0 : (a0 == 45) = true := beq_iff_eq.mpr c12
          have c12b1 : (a0 != 45) = false := bne_eq_false_iff_eq.mpr c12
          clear c12
          obtain rfl := Option.some.inj H
          go_enter Try.func42, Try.ntmps42
          go_wp2
          go_ret
          exact ⟨by first | rfl | (simp; done) | (simp [*]; done), by repeat (first | exact Drawn0.refl _ | apply Drawn0.step)⟩
        · rw [if_neg c12] at H
          have c12b0 : (a0 == 45) = false := beq_eq_false_iff_ne.mpr c12
          have c12b1 : (a0 != 45) = true := bne_iff_ne.mpr c12
          by_cases c13 : a0 = 46
          · rw [if_pos c13] at H
            have c13b0 : (a0 == 46) = true := beq_iff_eq.mpr c13
            have c13b1 : (a0 != 46) = false := bne_eq_false_iff_eq.mpr c13
            clear c13
            obtain rfl := Option.some.inj H
            go_enter Try.func42, Try.ntmps42
            go_wp2
            go_ret
            exact ⟨by first | rfl | (simp; done) | (simp [*]; done), by repeat (first | exact Drawn0.refl _ | apply Drawn0.step)⟩
          · rw [if_neg c13] at H
            have c13b0 : (a0 == 46) = false := beq_eq_false_iff_ne.mpr c13
            have c13b1 : (a0 != 46) = true := bne_iff_ne.mpr c13
            obtain rfl := Option.some.inj H
            go_enter Try.func42, Try.ntmps42
            go_wp2
            go_ret
            exact ⟨by first | rfl | (simp; done) | (simp [*]; done), by repeat (first | exact Drawn0.refl _ | apply Drawn0.step)⟩
    · rw [if_neg c10] at H
      have c10b0 : decide (48 ≤ a0) = false := decide_eq_false c10
      clear c10
      by_cases c14 : a0 = 45
      · rw [if_pos c14] at H
        have c14b0 : (a0 == 45) = true := beq_iff_eq.mpr c14
        have c14b1 : (a0 != 45) = false := bne_eq_false_iff_eq.mpr c14
        clear c14
        obtain rfl := Option.some.inj H
        go_enter Try.func42, Try.ntmps42
        go_wp2
        go_ret
        exact ⟨by first | rfl | (simp; done) | (simp [*]; done), by repeat (first | exact Drawn0.refl _ | apply Drawn0.step)⟩
      · rw [if_neg c14] at H
        have c14b0 : (a0 == 45) = false := beq_eq_false_iff_ne.mpr c14
        have c14b1 : (a0 != 45) = true := bne_iff_ne.mpr c14
        by_cases c15 : a0 = 46
        · rw [if_pos c15] at H
          have c15b0 : (a0 == 46) = true := beq_iff_eq.mpr c15
          have c15b1 : (a0 != 46) = false := bne_eq_false_iff_eq.mpr c15
          clear c15
          obtain rfl := Option.some.inj H
          go_enter Try.func42, Try.ntmps42
          go_wp2
          go_ret
          exact ⟨by first | rfl | (simp; done) | (simp [*]; done), by repeat (first | exact Drawn0.refl _ | apply Drawn0.step)⟩
        · rw [if_neg c15] at H
          have c15b0 : (a0 == 46) = false := beq_eq_false_iff_ne.mpr c15
          have c15b1 : (a0 != 46) = true := bne_iff_ne.mpr c15
          obtain rfl := Option.some.inj H
          go_enter Try.func42, Try.ntmps42
          go_wp2
          go_ret
          exact ⟨by first | rfl | (simp; done) | (simp [*]; done), by repeat (first | exact Drawn0.refl _ | apply Drawn0.step)⟩

/-! ### span_Name: function 41 -/
mutual
def span_Name.j0 : Nat → ByteArray → Bool → Option (Bool)
  | 0, _, _ => none
  | k + 1, x0, x11 => if x11 = true then (some false) else (span_Name.l0 k x0 (x0.size : Int) 0)
def span_Name.l0 : Nat → ByteArray → Int → Int → Option (Bool)
  | 0, _, _, _ => none
  | k + 1, x0, x13, x14 => if x14 < x13 then (if 0 ≤ x14 then (if x14 < (x0.size : Int) then ((span_letter.f (bt x0 x14)).bind fun t103 => (if t103 = true then (span_Name.l0 k x0 x13 (wrap64 (x14 + 1))) else (some false))) else (none)) else (none)) else (some true)
end
def span_Name.f (k : Nat) (a0 : ByteArray) : Option (Bool) := if (a0.size : Int) < 1 then (span_Name.j0 k a0 true) else (span_Name.j0 k a0 (decide ((a0.size : Int) > 16)))
theorem span_Name.mono_l : ∀ k, (∀ y0 y1, LeO (span_Name.j0 k y0 y1) (span_Name.j0 (k + 1) y0 y1)) ∧ (∀ y0 y1 y2, LeO (span_Name.l0 k y0 y1 y2) (span_Name.l0 (k + 1) y0 y1 y2))
  | 0 => ⟨fun _ _ r h => by simp [span_Name.j0] at h, fun _ _ _ r h => by simp [span_Name.l0] at h⟩
  | k + 1 => by
    obtain ⟨ih0, ih1⟩ := span_Name.mono_l k
    refine ⟨?_, ?_⟩
    · intro y0 y1
      unfold span_Name.j0
      repeat' first
      | (with_reducible exact ih0 _ _)
      | (with_reducible exact ih1 _ _ _)
      | (with_reducible exact LeO.refl _)
      | (with_reducible exact LeO.none _)
      | (with_reducible refine LeO.ite ?_ ?_)
      | (with_reducible refine LeO.bind ?_ (fun _ => ?_))
      | exact ih0 _ _
      | exact ih1 _ _ _
      | exact LeO.none _
      | refine LeO.ite ?_ ?_
      | refine LeO.bind ?_ (fun _ => ?_)
    · intro y0 y1 y2
      unfold span_Name.l0
      repeat' first
      | (with_reducible exact ih0 _ _)
      | (with_reducible exact ih1 _ _ _)
      | (with_reducible exact LeO.refl _)
      | (with_reducible exact LeO.none _)
      | (with_reducible refine LeO.ite ?_ ?_)
      | (with_reducible refine LeO.bind ?_ (fun _ => ?_))
      | exact ih0 _ _
      | exact ih1 _ _ _
      | exact LeO.none _
      | refine LeO.ite ?_ ?_
      | refine LeO.bind ?_ (fun _ => ?_)
theorem span_Name.mono : ∀ a0 k, LeO (span_Name.f k a0) (span_Name.f (k + 1) a0) := by
  intro a0 k
  obtain ⟨ih0, ih1⟩ := span_Name.mono_l k
  unfold span_Name.f
  repeat' first
      | (with_reducible exact ih0 _ _)
      | (with_reducible exact ih1 _ _ _)
      | (with_reducible exact LeO.refl _)
      | (with_reducible exact LeO.none _)
      | (with_reducible refine LeO.ite ?_ ?_)
      | (with_reducible refine LeO.bind ?_ (fun _ => ?_))
      | exact ih0 _ _
      | exact ih1 _ _ _
      | exact LeO.none _
      | refine LeO.ite ?_ ?_
      | refine LeO.bind ?_ (fun _ => ?_)
set_option maxHeartbeats 8000000 in
set_option maxRecDepth 100000 in
theorem span_Name.calls (k : Nat) (a0 : ByteArray) (r : Bool) (w : World) (h : span_Name.f k a0 = some r) :
    Calls Try.prog 41 #[.string a0] w fun e w' => e = .returned (.bool r) ∧ Drawn0 w w' := by
  have H : (if (a0.size : Int) < 1 then (span_Name.j0 k a0 true) else (span_Name.j0 k a0 (decide ((a0.size : Int) > 16)))) = some r := h
  clear h
  have HC2 := Aside0.mk H
  clear H
  go_enter Try.func41, Try.ntmps41
  go_upto_region 1 with (fail)
  go_cut [11] (fun v11 wc => ∃ (kq : Nat) (x11_1 : Bool), v11 = .bool x11_1 ∧ Aside0 (span_Name.j0 kq a0 x11_1 = some r) ∧ Aside0 (kq ≤ k) ∧ Drawn0 w wc)
  case first =>
    have H := HC2.out
    clear HC2
    by_cases c3 : (a0.size : Int) < 1
    · rw [if_pos c3] at H
      have c3b0 : decide ((a0.size : Int) < 1) = true := decide_eq_true c3
      have c3b1 : decide (a0.size < 1) = true := decide_eq_true (by omega)
      clear c3
      (first | rw [c3b0] | (simp only [i64_w, i32_w]; rw [c3b0]) | skip)
      have H' := Aside0.mk H
      clear H
      go_wp2
      go_meet
      case rel => exact ⟨_, (true), (by first | rfl | (simp; done) | (simp [*]; done)), H', ⟨by first | omega | exact Nat.le_refl _⟩, by repeat (first | exact Drawn0.refl _ | apply Drawn0.step)⟩
    · rw [if_neg c3] at H
      have c3b0 : decide ((a0.size : Int) < 1) = false := decide_eq_false c3
      have c3b1 : decide (a0.size < 1) = false := decide_eq_false (by omega)
      clear c3
      (first | rw [c3b0] | (simp only [i64_w, i32_w]; rw [c3b0]) | skip)
      have H' := Aside0.mk H
      clear H
      go_wp2
      go_meet
      case rel => exact ⟨_, (decide ((a0.size : Int) > 16)), (by first | rfl | (simp; done) | (simp [*]; done)), H', ⟨by first | omega | exact Nat.le_refl _⟩, by repeat (first | exact Drawn0.refl _ | apply Drawn0.step)⟩
  case rest =>
    clear HC2
    try clear p2
    try clear c3
    try clear c3b0
    try clear c3b1
    obtain ⟨kq, x11_1, rfl, HA, HJ1, ⟨mc1, rfl⟩⟩ := hcut
    cases kq with
    | zero => exact absurd HA.out (by simp [span_Name.j0])
    | succ kj1 =>
      have H := HA.out
      clear HA
      simp only [span_Name.j0] at H
      by_cases c4 : x11_1 = true
      · subst c4
        have H1 : (some false) = some r := by rw [if_pos rfl] at H; exact H
        clear H
        have H := H1
        clear H1
        obtain rfl := Option.some.inj H
        go_wp2
        go_ret
        exact ⟨by first | rfl | (simp; done) | (simp [*]; done), by repeat (first | exact Drawn0.refl _ | apply Drawn0.step)⟩
      · replace c4 := Bool.eq_false_iff.mpr c4
        subst c4
        have H1 : (span_Name.l0 kj1 a0 (a0.size : Int) 0) = some r := by rw [if_neg (show ¬ (false = true) by decide)] at H; exact H
        clear H
        have H := H1
        clear H1
        have H' := Aside0.mk H
        clear H
        go_wp2
        go_loopg [14] kj1 (fun kq v14 w' => ∃ (x14_2 : Int), v14 = .int .i64 x14_2 ∧ Aside0 (span_Name.l0 kq a0 (a0.size : Int) x14_2 = some r) ∧ Aside0 (kq ≤ kj1) ∧ Drawn0 w w')
        case atStart => exact ⟨(0), (by first | rfl | (simp; done) | (simp [*]; done)), H', ⟨Nat.le_refl _⟩, by repeat (first | exact Drawn0.refl _ | apply Drawn0.step)⟩
        case round =>
          clear H'
          try clear c1
          try clear p2
          try clear c3
          try clear c3b0
          try clear c3b1
          try clear c4
          try clear p2
          obtain ⟨x14_2, rfl, HA, HK2, ⟨m2, rfl⟩⟩ := hrel
          cases gk with
          | zero => exact absurd HA.out (by simp [span_Name.l0])
          | succ k2 =>
            have H := HA.out
            clear HA
            simp only [span_Name.l0] at H
            by_cases c5 : x14_2 < (a0.size : Int)
            · rw [if_pos c5] at H
              have c5b0 : decide (x14_2 < (a0.size : Int)) = true := decide_eq_true c5
              clear c5
              by_cases c6 : 0 ≤ x14_2
              · rw [if_pos c6] at H
                have c6b0 : decide (0 ≤ x14_2) = true := decide_eq_true c6
                clear c6
                by_cases c7 : x14_2 < (a0.size : Int)
                · rw [if_pos c7] at H
                  have c7b0 : decide (x14_2 < (a0.size : Int)) = true := decide_eq_true c7
                  clear c7
                  replace H := Option.bind_eq_some_iff.mp H
                  obtain ⟨t103, A90, H⟩ := H
                  replace H : (if t103 = true then (span_Name.l0 k2 a0 (a0.size : Int) (wrap64 (x14_2 + 1))) else (some false)) = some r := H
                  have A9 := Aside0.mk A90
                  clear A90
                  by_cases c10 : t103 = true
                  · subst c10
                    have H1 : (span_Name.l0 k2 a0 (a0.size : Int) (wrap64 (x14_2 + 1))) = some r := by rw [if_pos rfl] at H; exact H
                    clear H
                    have H := H1
                    clear H1
                    have H' := Aside0.mk H
                    clear H
                    have p8 : 0 ≤ (x14_2 : Int) := of_decide_eq_true (by first | (with_reducible assumption) | assumption)
                    have q8 : x14_2 < (a0.size : Int) := of_decide_eq_true (by first | (with_reducible assumption) | assumption)
                    have hx8 := bt_at a0 x14_2
                    replace p8 := eq_true p8
                    replace q8 := eq_true q8
                    go_wp2_with (first | ((with_reducible refine gate_callee (f := 42) rfl ?_); refine goesL_ (some 20) rfl rfl Try.func42 (by kernel_rfl) rfl #[.int .u8 (bt a0 x14_2)] rfl (by (try simp only [List.map_toArray, List.map_cons, List.map_nil]); first | done | rfl | (simp only [List.length_drop, List.length_take]; rfl)) ?_; (with_reducible refine (span_letter.calls (bt a0 x14_2) true _ A9.out).mono ?_); rintro e w' ⟨rfl, ⟨nd, rfl⟩⟩; refine ⟨_, rfl, ?_⟩))
                    go_roundg k2
                    case measure => have := HJ1.out; have := HK2.out; omega
                    case rel => exact ⟨(wrap64 (x14_2 + 1)), (by first | rfl | (simp; done) | (simp [*]; done)), H', ⟨by have := HJ1.out; have := HK2.out; omega⟩, by repeat (first | exact Drawn0.refl _ | apply Drawn0.step)⟩
                  · replace c10 := Bool.eq_false_iff.mpr c10
                    subst c10
                    have H1 : (some false) = some r := by rw [if_neg (show ¬ (false = true) by decide)] at H; exact H
                    clear H
                    have H := H1
                    clear H1
                    obtain rfl := Option.some.inj H
                    have p8 : 0 ≤ (x14_2 : Int) := of_decide_eq_true (by first | (with_reducible assumption) | assumption)
                    have q8 : x14_2 < (a0.size : Int) := of_decide_eq_true (by first | (with_reducible assumption) | assumption)
                    have hx8 := bt_at a0 x14_2
                    replace p8 := eq_true p8
                    replace q8 := eq_true q8
                    go_wp2_with (first | ((with_reducible refine gate_callee (f := 42) rfl ?_); refine goesL_ (some 20) rfl rfl Try.func42 (by kernel_rfl) rfl #[.int .u8 (bt a0 x14_2)] rfl (by (try simp only [List.map_toArray, List.map_cons, List.map_nil]); first | done | rfl | (simp only [List.length_drop, List.length_take]; rfl)) ?_; (with_reducible refine (span_letter.calls (bt a0 x14_2) false _ A9.out).mono ?_); rintro e w' ⟨rfl, ⟨nd, rfl⟩⟩; refine ⟨_, rfl, ?_⟩))
                    go_ret
                    exact ⟨by first | rfl | (simp; done) | (simp [*]; done), by repeat (first | exact Drawn0.refl _ | apply Drawn0.step)⟩
                · rw [if_neg c7] at H
                  exact absurd H (by simp)
              · rw [if_neg c6] at H
                exact absurd H (by simp)
            · rw [if_neg c5] at H
              have c5b0 : decide (x14_2 < (a0.size : Int)) = false := decide_eq_false c5
              clear c5
              obtain rfl := Option.some.inj H
              go_wp2
              go_ret
              exact ⟨by first | rfl | (simp; done) | (simp [*]; done), by repeat (first | exact Drawn0.refl _ | apply Drawn0.step)⟩

end Go.Proofs.Ythlekphkibeflaa.E
