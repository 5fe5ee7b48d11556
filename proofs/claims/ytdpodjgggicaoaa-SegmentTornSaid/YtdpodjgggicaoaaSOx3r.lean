-- WRITTEN FOR THIS CLAIM by wip/tools/mp.py, a program of this project that drives the kit's print; the functions that the print does not take are this project's own texts.
import Derived.Test.YtdpodjgggicaoaaSOx0r
import Derived.Test.YtdpodjgggicaoaaSOx1r
import Derived.Test.YtdpodjgggicaoaaSOx2r
namespace Go.Proofs.Ytdpodjgggicaoaa.SO
open Go.RowKit Go.Proofs.YtdpodjgggicaoaaW.PrintWords Go.Proofs.YtdpodjgggicaoaaW.PrintLast Go.Proofs.YtdpodjgggicaoaaW.PrintMore
attribute [local go_sem] max2_int min2_int max_two min_two max_three min_three max_four min_four   -- for this text's walks alone
set_option linter.unusedVariables false
set_option linter.unusedSimpArgs false
def wire_put.l0 : Nat → List Int → List Int → Int → Int → Int → Int → Int → Int → ByteArray → ByteArray → Int → Int → Option (List Int)
  | 0, _, _, _, _, _, _, _, _, _, _, _, _ => none
  | k + 1, x0, x13, x14, x15, x120000, x120001, x120002, x120003, x120004, x120005, x120006, x120007 => if x15 < x14 then (if 0 ≤ x15 then (if x15 < (x13.length : Int) then ((pack_Put.f x0 (rd x13 x15) 8).bind fun t124 => (wire_put.l0 k t124 x13 x14 (wrap64 (x15 + 1)) x120000 x120001 x120002 x120003 x120004 x120005 x120006 x120007)) else (none)) else (none)) else ((pack_Put.f x0 (IntKind.u64.wrap (x120003)) 1).bind fun t127 => ((pack_Put.f t127 (IntKind.u64.wrap (x120006)) 8).bind fun t130 => ((pack_Put.f t130 (IntKind.u64.wrap (x120007)) 8).bind fun t133 => ((pack_PutText.f t133 x120004).bind fun t136 => ((pack_PutText.f t136 x120005).bind fun t139 => (some t139))))))
def wire_put.f (k : Nat) (l0 : List Int) (a1_0 : Int) (a1_1 : Int) (a1_2 : Int) (a1_3 : Int) (a1_4 : ByteArray) (a1_5 : ByteArray) (a1_6 : Int) (a1_7 : Int) : Option (List Int) := (some (([a1_0, a1_1, a1_2] : List Int) : List Int)).bind fun y120 => (wire_put.l0 k l0 y120 (y120.length : Int) 0 a1_0 a1_1 a1_2 a1_3 a1_4 a1_5 a1_6 a1_7)
theorem wire_put.mono_l : ∀ k, (∀ y0 y1 y2 y3 y4 y5 y6 y7 y8 y9 y10 y11, LeO (wire_put.l0 k y0 y1 y2 y3 y4 y5 y6 y7 y8 y9 y10 y11) (wire_put.l0 (k + 1) y0 y1 y2 y3 y4 y5 y6 y7 y8 y9 y10 y11))
  | 0 => fun _ _ _ _ _ _ _ _ _ _ _ _ r h => by simp [wire_put.l0] at h
  | k + 1 => by
    have ih0 := wire_put.mono_l k
    · intro y0 y1 y2 y3 y4 y5 y6 y7 y8 y9 y10 y11
      unfold wire_put.l0
      repeat' first
      | (with_reducible exact ih0 _ _ _ _ _ _ _ _ _ _ _ _)
      | (with_reducible exact LeO.refl _)
      | (with_reducible exact LeO.none _)
      | (with_reducible refine LeO.ite ?_ ?_)
      | (with_reducible refine LeO.bind ?_ (fun _ => ?_))
      | exact ih0 _ _ _ _ _ _ _ _ _ _ _ _
      | exact LeO.none _
      | refine LeO.ite ?_ ?_
      | refine LeO.bind ?_ (fun _ => ?_)
theorem wire_put.mono : ∀ a0 a1 a2 a3 a4 a5 a6 a7 a8 k, LeO (wire_put.f k a0 a1 a2 a3 a4 a5 a6 a7 a8) (wire_put.f (k + 1) a0 a1 a2 a3 a4 a5 a6 a7 a8) := by
  intro a0 a1 a2 a3 a4 a5 a6 a7 a8 k
  have ih0 := wire_put.mono_l k
  unfold wire_put.f
  repeat' first
      | (with_reducible exact ih0 _ _ _ _ _ _ _ _ _ _ _ _)
      | (with_reducible exact LeO.refl _)
      | (with_reducible exact LeO.none _)
      | (with_reducible refine LeO.ite ?_ ?_)
      | (with_reducible refine LeO.bind ?_ (fun _ => ?_))
      | exact ih0 _ _ _ _ _ _ _ _ _ _ _ _
      | exact LeO.none _
      | refine LeO.ite ?_ ?_
      | refine LeO.bind ?_ (fun _ => ?_)
def wire_put.T7 : Bool × List (List Nat × List Nat) := (true, [([], []), ([], []), ([1], [1]), ([2], [2]), ([0, 3], [0, 3]), ([], []), ([5], [5]), ([6], [6]), ([4, 7, 4], [4, 7]), ([8, 8, 0, 1, 2, 3, 4, 5, 6, 7, 8], [0, 8])])
def wire_put.B7 : List Nat := [0, 0, 2, 6, 15, 0, 32, 96, 255, 511]
theorem wire_put.tab7 : rtab .any (opsOf Try.f39 7) = wire_put.T7 := by kernel_rfl
theorem wire_put.bits7 : waitsOk wire_put.T7.2 wire_put.B7 = true := by kernel_rfl
def wire_put.T8 : Bool × List (List Nat × List Nat) := (true, [([], []), ([], []), ([1], [1]), ([0, 2], [0, 2]), ([], []), ([4], [4]), ([3, 5, 3], [3, 5]), ([6, 6, 0, 1, 2, 3, 4, 5, 6], [6])])
def wire_put.B8 : List Nat := [0, 0, 2, 7, 0, 16, 63, 127]
theorem wire_put.tab8 : rtab .any (opsOf Try.f39 8) = wire_put.T8 := by kernel_rfl
theorem wire_put.bits8 : waitsOk wire_put.T8.2 wire_put.B8 = true := by kernel_rfl
set_option maxHeartbeats 8000000 in
set_option maxRecDepth 100000 in
theorem wire_put.calls (k : Nat) (P0_ : Nat → Prop) (A0 : Option Addr) (c0 : Nat) (l0 : List Int) (a1_0 : Int) (a1_1 : Int) (a1_2 : Int) (a1_3 : Int) (a1_4 : ByteArray) (a1_5 : ByteArray) (a1_6 : Int) (a1_7 : Int) (r : List Int) (w : World) (hs0 : Kd.V (Kd.int .u8) 5 w w.heap.size (fun k_ => P0_ k_) (.slice A0 l0.length c0) l0) (h : wire_put.f k l0 a1_0 a1_1 a1_2 a1_3 a1_4 a1_5 a1_6 a1_7 = some r) :
    Calls Try.prog 39 #[.slice A0 l0.length c0, .agg #[.int .u64 a1_0, .int .u64 a1_1, .int .u64 a1_2, .int .u8 a1_3, .string a1_4, .string a1_5, .int .i64 a1_6, .int .i64 a1_7]] w fun e w' => ∃ v0_ : Value, e = .returned (v0_) ∧ Kd.R (Kd.int .u8) 5 w' w.heap.size (fun k_ => (w.heap.size ≤ k_)) v0_ r ∧ Below w.heap.size w w' := by
  have hu77 := Try.underlying77
  have HO0 := Aside0.mk (show Kd.V (Kd.int .u8) 5 w w.heap.size (fun k_ => (P0_ k_ ∨ w.heap.size ≤ k_)) (.slice A0 l0.length c0) l0 from Kd.V_mono hs0 (fun k_ hk => .inl hk))
  have HB := Aside0.mk (Below.refl w.heap.size w)
  have H : ((some (([a1_0, a1_1, a1_2] : List Int) : List Int)).bind fun y120 => (wire_put.l0 k l0 y120 (y120.length : Int) 0 a1_0 a1_1 a1_2 a1_3 a1_4 a1_5 a1_6 a1_7)) = some r := h
  clear h
  obtain ⟨y120, hy120⟩ : ∃ y_ : List Int, y_ = (([a1_0, a1_1, a1_2] : List Int)) := ⟨_, rfl⟩
  replace H : (wire_put.l0 k l0 y120 (y120.length : Int) 0 a1_0 a1_1 a1_2 a1_3 a1_4 a1_5 a1_6 a1_7) = some r := by first | (rw [hy120]; with_reducible exact H) | (have H2_ := (Option.bind_some _ _).symm.trans H; rw [hy120]; with_reducible exact H2_) | (have H2_ := (Option.bind_some _ _).symm.trans H; with_reducible exact H2_) | with_reducible exact H | (rw [hy120]; exact H) | exact H
  have Ny120 := Aside0.mk hy120
  clear hy120
  have H' := Aside0.mk H
  clear H
  go_enter Try.func39, Try.ntmps39
  go_wp2_with (first | ((with_reducible refine gate_dst (N := 3) rfl ?_); refine box_event ?hg (N := 3) ?hd (cs := #[.int .u64 a1_0, .int .u64 a1_1, .int .u64 a1_2, .int .u8 a1_3, .string a1_4, .string a1_5, .int .i64 a1_6, .int .i64 a1_7]) (t := 77) ?hr ?_; (case hd => rfl); (case hg => rfl); (case hr => first | (go_simp; done) | (go_simp; rfl)); intro gb119 hg w3 hbox hb; have n0_ := Aside0.mk (Kd.V_below (Kd.V_elderB (by (with_reducible repeat (first | apply Kd.V_alloc | apply Kd.V_drewN | apply Kd.V_drew)); exact HO0.out) gb119 (Nat.le_of_eq hg.symm)) hb); have n1_ := Aside0.mk (below_step (by repeat (first | (with_reducible first | exact HB.out | apply below_alloc | apply pw_below_drewN | apply below_drew1) | exact HB.out)) hb); have n2_ := Aside0.mk (hbox); have n3_ := Aside0.mk ((by rw [hg]; exact (below_size (by repeat (first | (with_reducible first | exact HB.out | apply below_alloc | apply pw_below_drewN | apply below_drew1) | exact HB.out))) : w.heap.size ≤ gb119)); have n4_ := Aside0.mk ((by rw [hg]; exact (below_size (by repeat (first | (with_reducible first | exact HB.out | apply below_alloc | apply pw_below_drewN | apply below_drew1) | exact HB.out))) : w.heap.size ≤ gb119)); clear HO0; clear HB; have HO0 := n0_; have HB := n1_; have BK119 := n2_; have GW119 := n3_; have GE119 := n4_; clear n0_ n1_ n2_ n3_ n4_; clear hb hbox hg; have hcz4_0 : w3.cell? ⟨gb119, 0, none⟩ = some (.int .u64 a1_0) := (blk_cell BK119.out 0).trans rfl; have hcz4_1 : w3.cell? ⟨gb119, 1, none⟩ = some (.int .u64 a1_1) := (blk_cell BK119.out 1).trans rfl; have hcz4_2 : w3.cell? ⟨gb119, 2, none⟩ = some (.int .u64 a1_2) := (blk_cell BK119.out 2).trans rfl; have hcz4_3 : w3.cell? ⟨gb119, 3, none⟩ = some (.int .u8 a1_3) := (blk_cell BK119.out 3).trans rfl; have hcz4_4 : w3.cell? ⟨gb119, 4, none⟩ = some (.string a1_4) := (blk_cell BK119.out 4).trans rfl; have hcz4_5 : w3.cell? ⟨gb119, 5, none⟩ = some (.string a1_5) := (blk_cell BK119.out 5).trans rfl; have hcz4_6 : w3.cell? ⟨gb119, 6, none⟩ = some (.int .i64 a1_6) := (blk_cell BK119.out 6).trans rfl; have hcz4_7 : w3.cell? ⟨gb119, 7, none⟩ = some (.int .i64 a1_7) := (blk_cell BK119.out 7).trans rfl; have hfz4_0 := blk_frozen BK119.out 0; have hfz4_1 := blk_frozen BK119.out 1; have hfz4_2 := blk_frozen BK119.out 2; have hfz4_3 := blk_frozen BK119.out 3; have hfz4_4 := blk_frozen BK119.out 4; have hfz4_5 := blk_frozen BK119.out 5; have hfz4_6 := blk_frozen BK119.out 6; have hfz4_7 := blk_frozen BK119.out 7) | ((with_reducible refine gate_dst (N := 13) rfl ?_); refine Kd.R_lit (Kd.int .u64) _ 75 ?hg (N := 13) ?hd (xs := ([a1_0, a1_1, a1_2] : List Int)) (inner := [.int .u64 a1_0, .int .u64 a1_1, .int .u64 a1_2]) (ok := fun _ => True) (okp := fun _ => True) ?hr ?hp (fun _ hk => hk) trivial (Below.refl _ _) (Nat.le_refl _) (by simp) ?_; (case hd => rfl); (case hg => rfl); (case hr => first | (go_simp; done) | (go_simp; rfl)); (case hp => exact (Reps.one (show Kd.M (Kd.int .u64) _ _ _ a1_0 [.int .u64 a1_0] from rfl) (Reps.one (show Kd.M (Kd.int .u64) _ _ _ a1_1 [.int .u64 a1_1] from rfl) (Reps.one (show Kd.M (Kd.int .u64) _ _ _ a1_2 [.int .u64 a1_2] from rfl) (Reps.none _ _))))); intro v121 w5 ho6 hb hg_ hnew_; clear hg_ hnew_; (first | rw [← Ny120.out] at ho6 | (simp only [Int.reduceToNat] at ho6; rw [← Ny120.out] at ho6)); have n0_ := Aside0.mk (Kd.V_elder' (by (with_reducible repeat (first | apply Kd.V_alloc | apply Kd.V_drewN | apply Kd.V_drew)); exact HO0.out) (Kd.R_base ho6) hb); have n1_ := Aside0.mk (Kd.R_lower (Kd.R_newM (M := fun k_ => (w.heap.size ≤ k_)) ho6 (below_size (by repeat (first | (with_reducible first | exact HB.out | apply below_alloc | apply pw_below_drewN | apply below_drew1 | refine below_set ?_ GE119.out) | exact HB.out))) (fun k_ h_ => h_)) (below_size (by repeat (first | (with_reducible first | exact HB.out | apply below_alloc | apply pw_below_drewN | apply below_drew1 | refine below_set ?_ GE119.out) | exact HB.out)))); have n2_ := Aside0.mk (blk_below (g := gb119) (o := .cells #[.int .u64 a1_0, .int .u64 a1_1, .int .u64 a1_2, .int .u8 a1_3, .string a1_4, .string a1_5, .int .i64 a1_6, .int .i64 a1_7] 77 (0, 0)) (by (with_reducible repeat (first | refine blk_drewN ?_ _ | refine blk_drew ?_ | refine blk_alloc ?_ _)); exact BK119.out) hb); have n3_ := Aside0.mk (below_step (by repeat (first | (with_reducible first | exact HB.out | apply below_alloc | apply pw_below_drewN | apply below_drew1 | refine below_set ?_ GE119.out) | exact HB.out)) hb); clear HO0; clear BK119; clear HB; have HO0 := n0_; have HO122 := n1_; have BK119 := n2_; have HB := n3_; clear n0_ n1_ n2_ n3_; clear hb ho6; obtain ⟨Ao7, co7, eo7⟩ := Kd.R_slice HO122.out; subst eo7))
  go_loopg [0, 15] k (fun kq v0 v15 w' => ∃ (x0_1 : List Int) (x15_1 : Int), v15 = .int .i64 x15_1 ∧ Aside0 (wire_put.l0 kq x0_1 y120 (y120.length : Int) x15_1 a1_0 a1_1 a1_2 a1_3 a1_4 a1_5 a1_6 a1_7 = some r) ∧ Aside0 (kq ≤ k) ∧ Aside0 (Kd.V (Kd.int .u8) 5 w' w.heap.size (fun k_ => (P0_ k_ ∨ w.heap.size ≤ k_) ∧ some k_ ≠ ((.slice Ao7 y120.length co7) : Value).ownBlock ∧ k_ ≠ gb119) v0 x0_1) ∧ Aside0 (Kd.R (Kd.int .u64) 75 w' w.heap.size (fun k_ => (w.heap.size ≤ k_)) (.slice Ao7 y120.length co7) y120) ∧ Aside0 (w'.heap[gb119]? = some (.cells #[.int .u64 a1_0, .int .u64 a1_1, .int .u64 a1_2, .int .u8 a1_3, .string a1_4, .string a1_5, .int .i64 a1_6, .int .i64 a1_7] 77 (0, 0))) ∧ Aside0 (Below w.heap.size w w'))
  case atStart => exact ⟨(l0), (0), (by first | rfl | (simp; done) | (simp [*]; done)), H', ⟨Nat.le_refl _⟩, ⟨by (with_reducible repeat (first | apply Kd.V_alloc | apply Kd.V_drewN | apply Kd.V_drew)); exact Kd.V_mono HO0.out (fun _ hk => ⟨hk.1.1, ⟨hk.2, hk.1.2⟩⟩)⟩, ⟨by (with_reducible repeat (first | apply Kd.R_alloc | apply Kd.R_drewN | apply Kd.R_drew)); exact Kd.R_mono HO122.out (fun _ hk => hk.1)⟩, ⟨by (with_reducible repeat (first | refine blk_drewN ?_ _ | refine blk_drew ?_ | refine blk_alloc ?_ _)); exact BK119.out⟩, ⟨by repeat (first | (with_reducible first | exact HB.out | apply below_alloc | apply pw_below_drewN | apply below_drew1 | refine below_set ?_ GE119.out) | exact HB.out)⟩⟩
  case round =>
    clear H'
    try clear p2
    try clear c3
    try clear hcz4_0
    try clear hcz4_1
    try clear hcz4_2
    try clear hcz4_3
    try clear hcz4_4
    try clear hcz4_5
    try clear hcz4_6
    try clear hcz4_7
    try clear hfz4_0
    try clear hfz4_1
    try clear hfz4_2
    try clear hfz4_3
    try clear hfz4_4
    try clear hfz4_5
    try clear hfz4_6
    try clear hfz4_7
    obtain ⟨x0_1, x15_1, rfl, HA, HK1, HO_0, HO_13, BK119, HB⟩ := hrel
    cases gk with
    | zero => exact absurd HA.out (by simp [wire_put.l0])
    | succ k1 =>
      have H := HA.out
      clear HA
      simp only [wire_put.l0] at H
      by_cases c8 : x15_1 < (y120.length : Int)
      · rw [if_pos c8] at H
        have c8b0 : decide (x15_1 < (y120.length : Int)) = true := decide_eq_true c8
        clear c8
        by_cases c9 : 0 ≤ x15_1
        · rw [if_pos c9] at H
          have c9b0 : decide (0 ≤ x15_1) = true := decide_eq_true c9
          clear c9
          by_cases c10 : x15_1 < (y120.length : Int)
          · rw [if_pos c10] at H
            have c10b0 : decide (x15_1 < (y120.length : Int)) = true := decide_eq_true c10
            clear c10
            replace H := Option.bind_eq_some_iff.mp H
            obtain ⟨t124, A110, H⟩ := H
            replace H : (wire_put.l0 k1 t124 y120 (y120.length : Int) (wrap64 (x15_1 + 1)) a1_0 a1_1 a1_2 a1_3 a1_4 a1_5 a1_6 a1_7) = some r := H
            have A11 := Aside0.mk A110
            clear A110
            have H' := Aside0.mk H
            clear H
            have p123 : 0 ≤ (x15_1 : Int) := of_decide_eq_true (by first | (with_reducible assumption) | assumption)
            have q123 : x15_1 < (y120.length : Int) := of_decide_eq_true (by first | (with_reducible assumption) | assumption)
            obtain ⟨ad123, e123, hx123_0⟩ := Kd.at_int (Kd.R_reads' HO_13.out).2.2 x15_1 p123 q123
            cases e123
            replace p123 := eq_true p123
            replace q123 := eq_true q123
            obtain ⟨Ao12, co12, eo12⟩ := Kd.V_slice HO_0.out
            subst eo12
            go_wp2_with (first | ((with_reducible refine gate_callee (f := 37) rfl ?_); refine goesL_ (some 21) rfl rfl Try.func37 (by kernel_rfl) rfl #[.slice Ao12 x0_1.length co12, .int .u64 (rd y120 x15_1), .int .i64 8] rfl (by (try simp only [List.map_toArray, List.map_cons, List.map_nil]); first | done | rfl | (simp only [List.length_drop, List.length_take]; rfl) | (rw [Go.Proofs.Ytdpodjgggicaoaa.H.u64_id _ (by simp only [decide_eq_false_iff_not, decide_eq_true_eq, Nat.not_lt, Int.not_lt] at *; omega) (by simp only [decide_eq_false_iff_not, decide_eq_true_eq, Nat.not_lt, Int.not_lt] at *; omega)]; rfl)) ?_; (with_reducible refine (pack_Put.calls _ _ x0_1 (rd y120 x15_1) 8 t124 _ ?side1 ?side2 A11.out).mono ?_); (case side1 => repeat (first | exact (Kd.V_reads' HO_0.out).2.2 | (with_reducible refine Kd.C_alloc ?_ _) | (with_reducible refine Kd.C_drewN ?_ _) | (with_reducible refine Kd.C_drew ?_))); (case side2 => exact (Kd.V_reads' HO_0.out).2.1); rintro e w13 ⟨v125, rfl, ho0, hb⟩; refine ⟨_, rfl, ?_⟩; have n0_ := Aside0.mk (Kd.V_elder' (by (with_reducible repeat (first | apply Kd.V_alloc | apply Kd.V_drewN | apply Kd.V_drew)); exact HO_0.out) (Kd.R_base ho0) hb); have n1_ := Aside0.mk (Kd.R_below (by (with_reducible repeat (first | apply Kd.R_alloc | apply Kd.R_drewN | apply Kd.R_drew)); exact HO_13.out) hb); have n2_ := Aside0.mk (Kd.R_lower (Kd.R_newM (M := fun k_ => (w.heap.size ≤ k_)) ho0 (below_size (by repeat (first | (with_reducible first | exact HB.out | apply below_alloc | apply pw_below_drewN | apply below_drew1 | refine below_set ?_ GE119.out) | exact HB.out))) (fun k_ h_ => h_)) (below_size (by repeat (first | (with_reducible first | exact HB.out | apply below_alloc | apply pw_below_drewN | apply below_drew1 | refine below_set ?_ GE119.out) | exact HB.out)))); have n3_ := Aside0.mk (blk_below (g := gb119) (o := .cells #[.int .u64 a1_0, .int .u64 a1_1, .int .u64 a1_2, .int .u8 a1_3, .string a1_4, .string a1_5, .int .i64 a1_6, .int .i64 a1_7] 77 (0, 0)) (by (with_reducible repeat (first | refine blk_drewN ?_ _ | refine blk_drew ?_ | refine blk_alloc ?_ _)); exact BK119.out) hb); have n4_ := Aside0.mk (below_step (by repeat (first | (with_reducible first | exact HB.out | apply below_alloc | apply pw_below_drewN | apply below_drew1 | refine below_set ?_ GE119.out) | exact HB.out)) hb); clear HO_0; clear HO_13; clear BK119; clear HB; have HO_0 := n0_; have HO_13 := n1_; have HO126 := n2_; have BK119 := n3_; have HB := n4_; clear n0_ n1_ n2_ n3_ n4_; (try clear hb); (try clear hb2); (try clear hk); (try clear hi); (try clear ho0)))
            go_roundg k1
            case measure => have := HK1.out; omega
            case rel => exact ⟨(t124), (wrap64 (x15_1 + 1)), (by first | rfl | (simp; done) | (simp [*]; done)), H', ⟨by have := HK1.out; omega⟩, ⟨Kd.V_mono (Kd.R_V (by (with_reducible repeat (first | apply Kd.R_alloc | apply Kd.R_drewN | apply Kd.R_drew)); exact (Kd.R_types (Kd.R_apart' HO126.out (Kd.R_typed HO_13.out) (by decide)) BK119.out (by decide)))) (fun k_ hk => by first | exact ⟨(.inr (hk.1.1.1)), ⟨hk.1.2, hk.2⟩⟩ | exact ⟨(.inr (hk.1)), hk.2⟩ | exact (.inr (hk)))⟩, ⟨by (with_reducible repeat (first | apply Kd.R_alloc | apply Kd.R_drewN | apply Kd.R_drew)); exact HO_13.out⟩, ⟨by (with_reducible repeat (first | refine blk_drewN ?_ _ | refine blk_drew ?_ | refine blk_alloc ?_ _)); exact BK119.out⟩, ⟨by repeat (first | (with_reducible first | exact HB.out | apply below_alloc | apply pw_below_drewN | apply below_drew1 | refine below_set ?_ GE119.out) | exact HB.out)⟩⟩
          · rw [if_neg c10] at H
            exact absurd H (by simp)
        · rw [if_neg c9] at H
          exact absurd H (by simp)
      · rw [if_neg c8] at H
        have c8b0 : decide (x15_1 < (y120.length : Int)) = false := decide_eq_false c8
        clear c8
        replace H := Option.bind_eq_some_iff.mp H
        obtain ⟨t127, A140, H⟩ := H
        replace H : ((pack_Put.f t127 (IntKind.u64.wrap (a1_6)) 8).bind fun t130 => ((pack_Put.f t130 (IntKind.u64.wrap (a1_7)) 8).bind fun t133 => ((pack_PutText.f t133 a1_4).bind fun t136 => ((pack_PutText.f t136 a1_5).bind fun t139 => (some t139))))) = some r := H
        have A14 := Aside0.mk A140
        clear A140
        replace H := Option.bind_eq_some_iff.mp H
        obtain ⟨t130, A150, H⟩ := H
        replace H : ((pack_Put.f t130 (IntKind.u64.wrap (a1_7)) 8).bind fun t133 => ((pack_PutText.f t133 a1_4).bind fun t136 => ((pack_PutText.f t136 a1_5).bind fun t139 => (some t139)))) = some r := H
        have A15 := Aside0.mk A150
        clear A150
        replace H := Option.bind_eq_some_iff.mp H
        obtain ⟨t133, A160, H⟩ := H
        replace H : ((pack_PutText.f t133 a1_4).bind fun t136 => ((pack_PutText.f t136 a1_5).bind fun t139 => (some t139))) = some r := H
        have A16 := Aside0.mk A160
        clear A160
        replace H := Option.bind_eq_some_iff.mp H
        obtain ⟨t136, A170, H⟩ := H
        replace H : ((pack_PutText.f t136 a1_5).bind fun t139 => (some t139)) = some r := H
        have A17 := Aside0.mk A170
        clear A170
        replace H := Option.bind_eq_some_iff.mp H
        obtain ⟨t139, A180, H⟩ := H
        replace H : (some t139) = some r := H
        have A18 := Aside0.mk A180
        clear A180
        obtain rfl := Option.some.inj H
        have hcz19_0 : wr.cell? ⟨gb119, 0, none⟩ = some (.int .u64 a1_0) := (blk_cell BK119.out 0).trans rfl
        have hcz19_1 : wr.cell? ⟨gb119, 1, none⟩ = some (.int .u64 a1_1) := (blk_cell BK119.out 1).trans rfl
        have hcz19_2 : wr.cell? ⟨gb119, 2, none⟩ = some (.int .u64 a1_2) := (blk_cell BK119.out 2).trans rfl
        have hcz19_3 : wr.cell? ⟨gb119, 3, none⟩ = some (.int .u8 a1_3) := (blk_cell BK119.out 3).trans rfl
        have hcz19_4 : wr.cell? ⟨gb119, 4, none⟩ = some (.string a1_4) := (blk_cell BK119.out 4).trans rfl
        have hcz19_5 : wr.cell? ⟨gb119, 5, none⟩ = some (.string a1_5) := (blk_cell BK119.out 5).trans rfl
        have hcz19_6 : wr.cell? ⟨gb119, 6, none⟩ = some (.int .i64 a1_6) := (blk_cell BK119.out 6).trans rfl
        have hcz19_7 : wr.cell? ⟨gb119, 7, none⟩ = some (.int .i64 a1_7) := (blk_cell BK119.out 7).trans rfl
        have hfz19_0 := blk_frozen BK119.out 0
        have hfz19_1 := blk_frozen BK119.out 1
        have hfz19_2 := blk_frozen BK119.out 2
        have hfz19_3 := blk_frozen BK119.out 3
        have hfz19_4 := blk_frozen BK119.out 4
        have hfz19_5 := blk_frozen BK119.out 5
        have hfz19_6 := blk_frozen BK119.out 6
        have hfz19_7 := blk_frozen BK119.out 7
        obtain ⟨Ao20, co20, eo20⟩ := Kd.V_slice HO_0.out
        subst eo20
        try go_wp2_with (first | ((with_reducible refine gate_callee (f := 37) rfl ?_); refine goesL_ (some 27) rfl rfl Try.func37 (by kernel_rfl) rfl #[.slice Ao20 x0_1.length co20, .int .u64 (IntKind.u64.wrap (a1_3)), .int .i64 1] rfl (by (try simp only [List.map_toArray, List.map_cons, List.map_nil]); first | done | rfl | (simp only [List.length_drop, List.length_take]; rfl) | (rw [Go.Proofs.Ytdpodjgggicaoaa.H.u64_id _ (by simp only [decide_eq_false_iff_not, decide_eq_true_eq, Nat.not_lt, Int.not_lt] at *; omega) (by simp only [decide_eq_false_iff_not, decide_eq_true_eq, Nat.not_lt, Int.not_lt] at *; omega)]; rfl)) ?_; (with_reducible refine (pack_Put.calls _ _ x0_1 (IntKind.u64.wrap (a1_3)) 1 t127 _ ?side1 ?side2 A14.out).mono ?_); (case side1 => repeat (first | exact (Kd.V_reads' HO_0.out).2.2 | (with_reducible refine Kd.C_alloc ?_ _) | (with_reducible refine Kd.C_drewN ?_ _) | (with_reducible refine Kd.C_drew ?_))); (case side2 => exact (Kd.V_reads' HO_0.out).2.1); rintro e w21 ⟨v128, rfl, ho0, hb⟩; refine ⟨_, rfl, ?_⟩; have n0_ := Aside0.mk (Kd.V_elder' (by (with_reducible repeat (first | apply Kd.V_alloc | apply Kd.V_drewN | apply Kd.V_drew)); exact HO_0.out) (Kd.R_base ho0) hb); have n1_ := Aside0.mk (Kd.R_below (by (with_reducible repeat (first | apply Kd.R_alloc | apply Kd.R_drewN | apply Kd.R_drew)); exact HO_13.out) hb); have n2_ := Aside0.mk (Kd.R_lower (Kd.R_newM (M := fun k_ => (w.heap.size ≤ k_)) ho0 (below_size (by repeat (first | (with_reducible first | exact HB.out | apply below_alloc | apply pw_below_drewN | apply below_drew1 | refine below_set ?_ GE119.out) | exact HB.out))) (fun k_ h_ => h_)) (below_size (by repeat (first | (with_reducible first | exact HB.out | apply below_alloc | apply pw_below_drewN | apply below_drew1 | refine below_set ?_ GE119.out) | exact HB.out)))); have n3_ := Aside0.mk (blk_below (g := gb119) (o := .cells #[.int .u64 a1_0, .int .u64 a1_1, .int .u64 a1_2, .int .u8 a1_3, .string a1_4, .string a1_5, .int .i64 a1_6, .int .i64 a1_7] 77 (0, 0)) (by (with_reducible repeat (first | refine blk_drewN ?_ _ | refine blk_drew ?_ | refine blk_alloc ?_ _)); exact BK119.out) hb); have n4_ := Aside0.mk (below_step (by repeat (first | (with_reducible first | exact HB.out | apply below_alloc | apply pw_below_drewN | apply below_drew1 | refine below_set ?_ GE119.out) | exact HB.out)) hb); clear HO_0; clear HO_13; clear BK119; clear HB; have HO_0 := n0_; have HO_13 := n1_; have HO129 := n2_; have BK119 := n3_; have HB := n4_; clear n0_ n1_ n2_ n3_ n4_; (try clear hb); (try clear hb2); (try clear hk); (try clear hi); (try clear ho0)))
        (try (rw [drewN_self w21]; generalize hq_ : World.drewN w21 _ = w21; have n0_ : Aside0 (Kd.R (Kd.int .u8) 5 w21 w.heap.size (fun k_ => (w.heap.size ≤ k_)) v128 t127) := ⟨by rw [← hq_]; exact (by (with_reducible repeat (first | apply Kd.R_alloc | apply Kd.R_drewN | apply Kd.R_drew)); exact Kd.R_mono HO129.out (fun _ hk => hk.1))⟩; have n1_ : Aside0 (Kd.V (Kd.int .u8) 5 w21 w.heap.size (fun k_ => (P0_ k_ ∨ w.heap.size ≤ k_) ∧ some k_ ≠ (v128 : Value).ownBlock ∧ some k_ ≠ (.slice Ao7 y120.length co7 : Value).ownBlock ∧ k_ ≠ gb119) (.slice Ao20 x0_1.length co20) x0_1) := ⟨by rw [← hq_]; exact (by (with_reducible repeat (first | apply Kd.V_alloc | apply Kd.V_drewN | apply Kd.V_drew)); exact Kd.V_mono HO_0.out (fun _ hk => ⟨hk.1.1, ⟨hk.2, ⟨hk.1.2.1, hk.1.2.2⟩⟩⟩))⟩; have n2_ : Aside0 (Kd.R (Kd.int .u64) 75 w21 w.heap.size (fun k_ => (w.heap.size ≤ k_)) (.slice Ao7 y120.length co7) y120) := ⟨by rw [← hq_]; exact (by (with_reducible repeat (first | apply Kd.R_alloc | apply Kd.R_drewN | apply Kd.R_drew)); exact HO_13.out)⟩; have n3_ : Aside0 (w21.heap[gb119]? = some (.cells #[.int .u64 a1_0, .int .u64 a1_1, .int .u64 a1_2, .int .u8 a1_3, .string a1_4, .string a1_5, .int .i64 a1_6, .int .i64 a1_7] 77 (0, 0))) := ⟨by rw [← hq_]; exact (by (with_reducible repeat (first | refine blk_drewN ?_ _ | refine blk_drew ?_ | refine blk_alloc ?_ _)); exact BK119.out)⟩; have n4_ : Aside0 (Below w.heap.size w w21) := ⟨by rw [← hq_]; exact (by repeat (first | (with_reducible first | exact HB.out | apply below_alloc | apply pw_below_drewN | apply below_drew1 | refine below_set ?_ GE119.out) | exact HB.out))⟩; clear HO129 HO_0 HO_13 BK119 HB hq_; have HO129 := n0_; have HO_0 := n1_; have HO_13 := n2_; have BK119 := n3_; have HB := n4_; clear n0_ n1_ n2_ n3_ n4_))
        have n0_ := Aside0.mk (Kd.V_drew HO_0.out)
        have n1_ := Aside0.mk (Kd.R_drew HO_13.out)
        have n2_ := Aside0.mk (Kd.R_drew HO129.out)
        have n3_ := Aside0.mk (blk_drew BK119.out)
        have n4_ := Aside0.mk (below_drew1 HB.out)
        clear HO_0
        clear HO_13
        clear HO129
        clear BK119
        clear HB
        have HO_0 := n0_
        have HO_13 := n1_
        have HO129 := n2_
        have BK119 := n3_
        have HB := n4_
        clear n0_ n1_ n2_ n3_ n4_
        obtain ⟨Ao23, co23, eo23⟩ := Kd.R_slice HO129.out
        (first | subst eo23 | (injection eo23 with f1_ f2_ f3_; have f4_ := f1_.symm; have f5_ := f3_.symm; clear f1_ f2_ f3_; subst f4_; subst f5_))
        refine start_ (n := 10) (S := fun w' => w'.cell? ⟨gb119, 0, none⟩ = some (.int .u64 a1_0) ∧ w'.cell? ⟨gb119, 1, none⟩ = some (.int .u64 a1_1) ∧ w'.cell? ⟨gb119, 2, none⟩ = some (.int .u64 a1_2) ∧ w'.cell? ⟨gb119, 3, none⟩ = some (.int .u8 a1_3) ∧ w'.cell? ⟨gb119, 4, none⟩ = some (.string a1_4) ∧ w'.cell? ⟨gb119, 5, none⟩ = some (.string a1_5) ∧ w'.cell? ⟨gb119, 6, none⟩ = some (.int .i64 a1_6) ∧ w'.cell? ⟨gb119, 7, none⟩ = some (.int .i64 a1_7)) (ds := []) #[false, false, false, false, false, false, false, false, false, false] (by kernel_rfl) rfl rfl ⟨(blk_cell BK119.out 0).trans rfl, (blk_cell BK119.out 1).trans rfl, (blk_cell BK119.out 2).trans rfl, (blk_cell BK119.out 3).trans rfl, (blk_cell BK119.out 4).trans rfl, (blk_cell BK119.out 5).trans rfl, (blk_cell BK119.out 6).trans rfl, (blk_cell BK119.out 7).trans rfl⟩ (fun hHeld => ?_); refine with_tabW wire_put.tab7 wire_put.bits7 (fun HT_ HW_ => ?_)
        generalize w21.drew = w22 at HO_0 HO_13 HO129 BK119 HB hHeld ⊢
        refine pure_ (i := 0) (N := some 28) (v := ?_) (a' := ?_) #[true, false, false, false, false, false, false, false, false, false] rfl rfl (any_of HT_.out (by kernel_rfl)) (fun _ _ _ h => h) (Or.inl ⟨by rfl, ?_⟩) ?_ ?_
        rotate_left
        · intro w'
          go_simp
          with_reducible rfl
        rotate_left
        · simp only [Act.put, List.setIfInBounds_toArray, List.set_cons_zero, List.set_cons_succ, i64_w, i32_w]
          rfl
        refine pure_ (i := 1) (N := some 29) (v := ?_) (a' := ?_) #[true, true, false, false, false, false, false, false, false, false] rfl rfl (any_of HT_.out (by kernel_rfl)) (fun _ _ _ h => h) (Or.inl ⟨by rfl, ?_⟩) ?_ ?_
        rotate_left
        · intro w'
          go_simp
          with_reducible rfl
        rotate_left
        · simp only [Act.put, List.setIfInBounds_toArray, List.set_cons_zero, List.set_cons_succ, i64_w, i32_w]
          rfl
        refine pure_ (i := 5) (N := some 33) (v := ?_) (a' := ?_) #[true, true, false, false, false, true, false, false, false, false] rfl rfl (any_of HT_.out (by kernel_rfl)) (fun _ _ _ h => h) (Or.inl ⟨by rfl, ?_⟩) ?_ ?_
        rotate_left
        · intro w'
          go_simp
          with_reducible rfl
        rotate_left
        · simp only [Act.put, List.setIfInBounds_toArray, List.set_cons_zero, List.set_cons_succ, i64_w, i32_w]
          rfl
        refine take_ (i := 2) (N := some 30) (v := ?_) (a' := ?_) #[true, true, true, false, false, true, false, false, false, false] rfl rfl (take_ofW HT_.out HW_.out (by kernel_rfl)) (fun _ _ _ h => h) (Or.inl ⟨by rfl, ?_⟩) hHeld ?_ ?_
        rotate_left
        · rintro w' ⟨s0, s1, s2, s3, s4, s5, s6, s7⟩
          go_simp
          with_reducible rfl
        rotate_left
        · simp only [Act.put, List.setIfInBounds_toArray, List.set_cons_zero, List.set_cons_succ, i64_w, i32_w]
          rfl
        refine pure_ (i := 3) (N := some 31) (v := ?_) (a' := ?_) #[true, true, true, true, false, true, false, false, false, false] rfl rfl (any_of HT_.out (by kernel_rfl)) (fun _ _ _ h => h) (Or.inl ⟨by rfl, ?_⟩) ?_ ?_
        rotate_left
        · intro w'
          go_simp
          with_reducible rfl
        rotate_left
        · simp only [Act.put, List.setIfInBounds_toArray, List.set_cons_zero, List.set_cons_succ, i64_w, i32_w]
          rfl
        refine take_ (i := 6) (N := some 34) (v := ?_) (a' := ?_) #[true, true, true, true, false, true, true, false, false, false] rfl rfl (take_ofW HT_.out HW_.out (by kernel_rfl)) (fun _ _ _ h => h) (Or.inl ⟨by rfl, ?_⟩) hHeld ?_ ?_
        rotate_left
        · rintro w' ⟨s0, s1, s2, s3, s4, s5, s6, s7⟩
          go_simp
          with_reducible rfl
        rotate_left
        · simp only [Act.put, List.setIfInBounds_toArray, List.set_cons_zero, List.set_cons_succ, i64_w, i32_w]
          rfl
        refine pure_ (i := 7) (N := some 35) (v := ?_) (a' := ?_) #[true, true, true, true, false, true, true, true, false, false] rfl rfl (any_of HT_.out (by kernel_rfl)) (fun _ _ _ h => h) (Or.inl ⟨by rfl, ?_⟩) ?_ ?_
        rotate_left
        · intro w'
          go_simp
          with_reducible rfl
        rotate_left
        · simp only [Act.put, List.setIfInBounds_toArray, List.set_cons_zero, List.set_cons_succ, i64_w, i32_w]
          rfl
        refine one_ (i := 4) (N := some 32) #[true, true, true, true, true, true, true, true, false, false] rfl rfl (one_of HT_.out (by kernel_rfl)) (by decide) (fun K hK => ?_)
        refine goes_ Try.func37 (by kernel_rfl) rfl #[.slice Ao23 t127.length co23, .int .u64 (IntKind.u64.wrap (a1_6)), .int .i64 8] (by rfl) rfl rfl (by (try simp only [List.map_toArray, List.map_cons, List.map_nil]); first | done | rfl | (simp only [List.length_drop, List.length_take]; rfl) | (rw [Go.Proofs.Ytdpodjgggicaoaa.H.u64_id _ (by simp only [decide_eq_false_iff_not, decide_eq_true_eq, Nat.not_lt, Int.not_lt] at *; omega) (by simp only [decide_eq_false_iff_not, decide_eq_true_eq, Nat.not_lt, Int.not_lt] at *; omega)]; rfl)) ?_
        with_reducible refine (pack_Put.calls _ _ t127 (IntKind.u64.wrap (a1_6)) 8 t130 _ ?side1 ?side2 A15.out).mono ?_
        (case side1 => repeat (first | exact (Kd.R_reads' HO129.out).2.2 | (with_reducible refine Kd.C_alloc ?_ _) | (with_reducible refine Kd.C_drewN ?_ _) | (with_reducible refine Kd.C_drew ?_)))
        (case side2 => exact (Kd.R_reads' HO129.out).2.1)
        rintro e w24 ⟨v131, rfl, ho0, hb⟩
        refine ⟨_, rfl, ?_⟩
        have n0_ := Aside0.mk (Kd.V_elder' (by (with_reducible repeat (first | apply Kd.V_alloc | apply Kd.V_drewN | apply Kd.V_drew)); exact HO_0.out) (Kd.R_base ho0) hb)
        have n1_ := Aside0.mk (Kd.R_below (by (with_reducible repeat (first | apply Kd.R_alloc | apply Kd.R_drewN | apply Kd.R_drew)); exact HO_13.out) hb)
        have n2_ := Aside0.mk (Kd.R_elder' (by (with_reducible repeat (first | apply Kd.R_alloc | apply Kd.R_drewN | apply Kd.R_drew)); exact HO129.out) (Kd.R_base ho0) hb)
        have n3_ := Aside0.mk (Kd.R_lower (Kd.R_new' (Kd.R_newM (M := fun k_ => (w.heap.size ≤ k_)) ho0 (below_size (by repeat (first | (with_reducible first | exact HB.out | apply below_alloc | apply pw_below_drewN | apply below_drew1 | refine below_set ?_ GE119.out) | exact HB.out))) (fun k_ h_ => h_)) (Kd.R_lt (by (with_reducible repeat (first | apply Kd.R_alloc | apply Kd.R_drewN | apply Kd.R_drew)); exact HO129.out))) (below_size (by repeat (first | (with_reducible first | exact HB.out | apply below_alloc | apply pw_below_drewN | apply below_drew1 | refine below_set ?_ GE119.out) | exact HB.out))))
        have n4_ := Aside0.mk (blk_below (g := gb119) (o := .cells #[.int .u64 a1_0, .int .u64 a1_1, .int .u64 a1_2, .int .u8 a1_3, .string a1_4, .string a1_5, .int .i64 a1_6, .int .i64 a1_7] 77 (0, 0)) (by (with_reducible repeat (first | refine blk_drewN ?_ _ | refine blk_drew ?_ | refine blk_alloc ?_ _)); exact BK119.out) hb)
        have n5_ := Aside0.mk (below_step (by repeat (first | (with_reducible first | exact HB.out | apply below_alloc | apply pw_below_drewN | apply below_drew1 | refine below_set ?_ GE119.out) | exact HB.out)) hb)
        clear HO_0
        clear HO_13
        clear HO129
        clear BK119
        clear HB
        have HO_0 := n0_
        have HO_13 := n1_
        have HO129 := n2_
        have HO132 := n3_
        have BK119 := n4_
        have HB := n5_
        clear n0_ n1_ n2_ n3_ n4_ n5_
        (try clear hb)
        (try clear hb2)
        (try clear hk)
        (try clear hi)
        (try clear ho0)
        obtain ⟨Ao25, co25, eo25⟩ := Kd.R_slice HO132.out
        (first | subst eo25 | (injection eo25 with f1_ f2_ f3_; have f4_ := f1_.symm; have f5_ := f3_.symm; clear f1_ f2_ f3_; subst f4_; subst f5_))
        refine hK.out _ _ ⟨(blk_cell BK119.out 0).trans rfl, (blk_cell BK119.out 1).trans rfl, (blk_cell BK119.out 2).trans rfl, (blk_cell BK119.out 3).trans rfl, (blk_cell BK119.out 4).trans rfl, (blk_cell BK119.out 5).trans rfl, (blk_cell BK119.out 6).trans rfl, (blk_cell BK119.out 7).trans rfl⟩ (fun hHeld => ?_)
        clear hK K
        refine norm_ (a' := ?_) ?_ ?_
        rotate_left
        · show Act.put _ (some 32) _ = _
          simp only [Act.put, List.setIfInBounds_toArray, List.set_cons_zero, List.set_cons_succ, i64_w, i32_w]
          rfl
        refine one_ (i := 8) (N := some 36) #[true, true, true, true, true, true, true, true, true, false] rfl rfl (one_of HT_.out (by kernel_rfl)) (by decide) (fun K hK => ?_)
        refine goes_ Try.func37 (by kernel_rfl) rfl #[.slice Ao25 t130.length co25, .int .u64 (IntKind.u64.wrap (a1_7)), .int .i64 8] (by rfl) rfl rfl (by (try simp only [List.map_toArray, List.map_cons, List.map_nil]); first | done | rfl | (simp only [List.length_drop, List.length_take]; rfl) | (rw [Go.Proofs.Ytdpodjgggicaoaa.H.u64_id _ (by simp only [decide_eq_false_iff_not, decide_eq_true_eq, Nat.not_lt, Int.not_lt] at *; omega) (by simp only [decide_eq_false_iff_not, decide_eq_true_eq, Nat.not_lt, Int.not_lt] at *; omega)]; rfl)) ?_
        with_reducible refine (pack_Put.calls _ _ t130 (IntKind.u64.wrap (a1_7)) 8 t133 _ ?side1 ?side2 A16.out).mono ?_
        (case side1 => repeat (first | exact (Kd.R_reads' HO132.out).2.2 | (with_reducible refine Kd.C_alloc ?_ _) | (with_reducible refine Kd.C_drewN ?_ _) | (with_reducible refine Kd.C_drew ?_)))
        (case side2 => exact (Kd.R_reads' HO132.out).2.1)
        rintro e w26 ⟨v134, rfl, ho0, hb⟩
        refine ⟨_, rfl, ?_⟩
        have n0_ := Aside0.mk (Kd.V_elder' (by (with_reducible repeat (first | apply Kd.V_alloc | apply Kd.V_drewN | apply Kd.V_drew)); exact HO_0.out) (Kd.R_base ho0) hb)
        have n1_ := Aside0.mk (Kd.R_below (by (with_reducible repeat (first | apply Kd.R_alloc | apply Kd.R_drewN | apply Kd.R_drew)); exact HO_13.out) hb)
        have n2_ := Aside0.mk (Kd.R_elder' (by (with_reducible repeat (first | apply Kd.R_alloc | apply Kd.R_drewN | apply Kd.R_drew)); exact HO129.out) (Kd.R_base ho0) hb)
        have n3_ := Aside0.mk (Kd.R_elder' (by (with_reducible repeat (first | apply Kd.R_alloc | apply Kd.R_drewN | apply Kd.R_drew)); exact HO132.out) (Kd.R_base ho0) hb)
        have n4_ := Aside0.mk (Kd.R_lower (Kd.R_new' (Kd.R_new' (Kd.R_newM (M := fun k_ => (w.heap.size ≤ k_)) ho0 (below_size (by repeat (first | (with_reducible first | exact HB.out | apply below_alloc | apply pw_below_drewN | apply below_drew1 | refine below_set ?_ GE119.out) | exact HB.out))) (fun k_ h_ => h_)) (Kd.R_lt (by (with_reducible repeat (first | apply Kd.R_alloc | apply Kd.R_drewN | apply Kd.R_drew)); exact HO129.out))) (Kd.R_lt (by (with_reducible repeat (first | apply Kd.R_alloc | apply Kd.R_drewN | apply Kd.R_drew)); exact HO132.out))) (below_size (by repeat (first | (with_reducible first | exact HB.out | apply below_alloc | apply pw_below_drewN | apply below_drew1 | refine below_set ?_ GE119.out) | exact HB.out))))
        have n5_ := Aside0.mk (blk_below (g := gb119) (o := .cells #[.int .u64 a1_0, .int .u64 a1_1, .int .u64 a1_2, .int .u8 a1_3, .string a1_4, .string a1_5, .int .i64 a1_6, .int .i64 a1_7] 77 (0, 0)) (by (with_reducible repeat (first | refine blk_drewN ?_ _ | refine blk_drew ?_ | refine blk_alloc ?_ _)); exact BK119.out) hb)
        have n6_ := Aside0.mk (below_step (by repeat (first | (with_reducible first | exact HB.out | apply below_alloc | apply pw_below_drewN | apply below_drew1 | refine below_set ?_ GE119.out) | exact HB.out)) hb)
        clear HO_0
        clear HO_13
        clear HO129
        clear HO132
        clear BK119
        clear HB
        have HO_0 := n0_
        have HO_13 := n1_
        have HO129 := n2_
        have HO132 := n3_
        have HO135 := n4_
        have BK119 := n5_
        have HB := n6_
        clear n0_ n1_ n2_ n3_ n4_ n5_ n6_
        (try clear hb)
        (try clear hb2)
        (try clear hk)
        (try clear hi)
        (try clear ho0)
        refine hK.out _ _ ⟨(blk_cell BK119.out 0).trans rfl, (blk_cell BK119.out 1).trans rfl, (blk_cell BK119.out 2).trans rfl, (blk_cell BK119.out 3).trans rfl, (blk_cell BK119.out 4).trans rfl, (blk_cell BK119.out 5).trans rfl, (blk_cell BK119.out 6).trans rfl, (blk_cell BK119.out 7).trans rfl⟩ (fun hHeld => ?_)
        clear hK K
        refine norm_ (a' := ?_) ?_ ?_
        rotate_left
        · show Act.put _ (some 36) _ = _
          simp only [Act.put, List.setIfInBounds_toArray, List.set_cons_zero, List.set_cons_succ, i64_w, i32_w]
          rfl
        refine pure_ (i := 9) (N := some 0) (v := ?_) (a' := ?_) #[true, true, true, true, true, true, true, true, true, true] rfl rfl (any_of HT_.out (by kernel_rfl)) (fun _ _ _ h => h) (Or.inl ⟨by rfl, ?_⟩) ?_ ?_
        rotate_left
        · intro w'
          go_simp
          with_reducible rfl
        rotate_left
        · simp only [Act.put, List.setIfInBounds_toArray, List.set_cons_zero, List.set_cons_succ, i64_w, i32_w]
          rfl
        refine done_ (done_of HT_.out (by kernel_rfl)) ?_
        try go_wp2
        (try (rw [drewN_self w26]; generalize hq_ : World.drewN w26 _ = w26; have n0_ : Aside0 (Kd.R (Kd.int .u8) 5 w26 w.heap.size (fun k_ => (w.heap.size ≤ k_) ∧ some k_ ≠ (.slice Ao25 t130.length co25 : Value).ownBlock ∧ some k_ ≠ (v134 : Value).ownBlock) (.slice Ao23 t127.length co23) t127) := ⟨by rw [← hq_]; exact (by (with_reducible repeat (first | apply Kd.R_alloc | apply Kd.R_drewN | apply Kd.R_drew)); exact Kd.R_mono HO129.out (fun _ hk => ⟨hk.1.1.1, ⟨hk.1.2, hk.2⟩⟩))⟩; have n1_ : Aside0 (Kd.R (Kd.int .u8) 5 w26 w.heap.size (fun k_ => (w.heap.size ≤ k_) ∧ some k_ ≠ (.slice Ao23 t127.length co23 : Value).ownBlock ∧ some k_ ≠ (v134 : Value).ownBlock) (.slice Ao25 t130.length co25) t130) := ⟨by rw [← hq_]; exact (by (with_reducible repeat (first | apply Kd.R_alloc | apply Kd.R_drewN | apply Kd.R_drew)); exact Kd.R_mono HO132.out (fun _ hk => ⟨hk.1.1.1, ⟨hk.1.2, hk.2⟩⟩))⟩; have n2_ : Aside0 (Kd.R (Kd.int .u8) 5 w26 w.heap.size (fun k_ => (w.heap.size ≤ k_) ∧ some k_ ≠ (.slice Ao23 t127.length co23 : Value).ownBlock ∧ some k_ ≠ (.slice Ao25 t130.length co25 : Value).ownBlock) v134 t133) := ⟨by rw [← hq_]; exact (by (with_reducible repeat (first | apply Kd.R_alloc | apply Kd.R_drewN | apply Kd.R_drew)); exact Kd.R_mono HO135.out (fun _ hk => ⟨hk.1.1.1, ⟨hk.1.2, hk.2⟩⟩))⟩; have n3_ : Aside0 (Kd.V (Kd.int .u8) 5 w26 w.heap.size (fun k_ => (P0_ k_ ∨ w.heap.size ≤ k_) ∧ some k_ ≠ (.slice Ao23 t127.length co23 : Value).ownBlock ∧ some k_ ≠ (.slice Ao25 t130.length co25 : Value).ownBlock ∧ some k_ ≠ (v134 : Value).ownBlock ∧ some k_ ≠ (.slice Ao7 y120.length co7 : Value).ownBlock ∧ k_ ≠ gb119) (.slice Ao20 x0_1.length co20) x0_1) := ⟨by rw [← hq_]; exact (by (with_reducible repeat (first | apply Kd.V_alloc | apply Kd.V_drewN | apply Kd.V_drew)); exact Kd.V_mono HO_0.out (fun _ hk => ⟨hk.1.1.1.1, ⟨hk.1.1.2, ⟨hk.1.2, ⟨hk.2, ⟨hk.1.1.1.2.1, hk.1.1.1.2.2⟩⟩⟩⟩⟩))⟩; have n4_ : Aside0 (Kd.R (Kd.int .u64) 75 w26 w.heap.size (fun k_ => (w.heap.size ≤ k_)) (.slice Ao7 y120.length co7) y120) := ⟨by rw [← hq_]; exact (by (with_reducible repeat (first | apply Kd.R_alloc | apply Kd.R_drewN | apply Kd.R_drew)); exact HO_13.out)⟩; have n5_ : Aside0 (w26.heap[gb119]? = some (.cells #[.int .u64 a1_0, .int .u64 a1_1, .int .u64 a1_2, .int .u8 a1_3, .string a1_4, .string a1_5, .int .i64 a1_6, .int .i64 a1_7] 77 (0, 0))) := ⟨by rw [← hq_]; exact (by (with_reducible repeat (first | refine blk_drewN ?_ _ | refine blk_drew ?_ | refine blk_alloc ?_ _)); exact BK119.out)⟩; have n6_ : Aside0 (Below w.heap.size w w26) := ⟨by rw [← hq_]; exact (by repeat (first | (with_reducible first | exact HB.out | apply below_alloc | apply pw_below_drewN | apply below_drew1 | refine below_set ?_ GE119.out) | exact HB.out))⟩; clear HO129 HO132 HO135 HO_0 HO_13 BK119 HB hq_; have HO129 := n0_; have HO132 := n1_; have HO135 := n2_; have HO_0 := n3_; have HO_13 := n4_; have BK119 := n5_; have HB := n6_; clear n0_ n1_ n2_ n3_ n4_ n5_ n6_))
        have n0_ := Aside0.mk (Kd.V_drew HO_0.out)
        have n1_ := Aside0.mk (Kd.R_drew HO_13.out)
        have n2_ := Aside0.mk (Kd.R_drew HO129.out)
        have n3_ := Aside0.mk (Kd.R_drew HO132.out)
        have n4_ := Aside0.mk (Kd.R_drew HO135.out)
        have n5_ := Aside0.mk (blk_drew BK119.out)
        have n6_ := Aside0.mk (below_drew1 HB.out)
        clear HO_0
        clear HO_13
        clear HO129
        clear HO132
        clear HO135
        clear BK119
        clear HB
        have HO_0 := n0_
        have HO_13 := n1_
        have HO129 := n2_
        have HO132 := n3_
        have HO135 := n4_
        have BK119 := n5_
        have HB := n6_
        clear n0_ n1_ n2_ n3_ n4_ n5_ n6_
        obtain ⟨Ao28, co28, eo28⟩ := Kd.R_slice HO135.out
        (first | subst eo28 | (injection eo28 with f1_ f2_ f3_; have f4_ := f1_.symm; have f5_ := f3_.symm; clear f1_ f2_ f3_; subst f4_; subst f5_))
        refine start_ (n := 8) (S := fun w' => w'.cell? ⟨gb119, 0, none⟩ = some (.int .u64 a1_0) ∧ w'.cell? ⟨gb119, 1, none⟩ = some (.int .u64 a1_1) ∧ w'.cell? ⟨gb119, 2, none⟩ = some (.int .u64 a1_2) ∧ w'.cell? ⟨gb119, 3, none⟩ = some (.int .u8 a1_3) ∧ w'.cell? ⟨gb119, 4, none⟩ = some (.string a1_4) ∧ w'.cell? ⟨gb119, 5, none⟩ = some (.string a1_5) ∧ w'.cell? ⟨gb119, 6, none⟩ = some (.int .i64 a1_6) ∧ w'.cell? ⟨gb119, 7, none⟩ = some (.int .i64 a1_7)) (ds := []) #[false, false, false, false, false, false, false, false] (by kernel_rfl) rfl rfl ⟨(blk_cell BK119.out 0).trans rfl, (blk_cell BK119.out 1).trans rfl, (blk_cell BK119.out 2).trans rfl, (blk_cell BK119.out 3).trans rfl, (blk_cell BK119.out 4).trans rfl, (blk_cell BK119.out 5).trans rfl, (blk_cell BK119.out 6).trans rfl, (blk_cell BK119.out 7).trans rfl⟩ (fun hHeld => ?_); refine with_tabW wire_put.tab8 wire_put.bits8 (fun HT_ HW_ => ?_)
        generalize w26.drew = w27 at HO_0 HO_13 HO129 HO132 HO135 BK119 HB hHeld ⊢
        refine pure_ (i := 0) (N := some 37) (v := ?_) (a' := ?_) #[true, false, false, false, false, false, false, false] rfl rfl (any_of HT_.out (by kernel_rfl)) (fun _ _ _ h => h) (Or.inl ⟨by rfl, ?_⟩) ?_ ?_
        rotate_left
        · intro w'
          go_simp
          with_reducible rfl
        rotate_left
        · simp only [Act.put, List.setIfInBounds_toArray, List.set_cons_zero, List.set_cons_succ, i64_w, i32_w]
          rfl
        refine pure_ (i := 1) (N := some 38) (v := ?_) (a' := ?_) #[true, true, false, false, false, false, false, false] rfl rfl (any_of HT_.out (by kernel_rfl)) (fun _ _ _ h => h) (Or.inl ⟨by rfl, ?_⟩) ?_ ?_
        rotate_left
        · intro w'
          go_simp
          with_reducible rfl
        rotate_left
        · simp only [Act.put, List.setIfInBounds_toArray, List.set_cons_zero, List.set_cons_succ, i64_w, i32_w]
          rfl
        refine pure_ (i := 4) (N := some 41) (v := ?_) (a' := ?_) #[true, true, false, false, true, false, false, false] rfl rfl (any_of HT_.out (by kernel_rfl)) (fun _ _ _ h => h) (Or.inl ⟨by rfl, ?_⟩) ?_ ?_
        rotate_left
        · intro w'
          go_simp
          with_reducible rfl
        rotate_left
        · simp only [Act.put, List.setIfInBounds_toArray, List.set_cons_zero, List.set_cons_succ, i64_w, i32_w]
          rfl
        refine take_ (i := 2) (N := some 39) (v := ?_) (a' := ?_) #[true, true, true, false, true, false, false, false] rfl rfl (take_ofW HT_.out HW_.out (by kernel_rfl)) (fun _ _ _ h => h) (Or.inl ⟨by rfl, ?_⟩) hHeld ?_ ?_
        rotate_left
        · rintro w' ⟨s0, s1, s2, s3, s4, s5, s6, s7⟩
          go_simp
          with_reducible rfl
        rotate_left
        · simp only [Act.put, List.setIfInBounds_toArray, List.set_cons_zero, List.set_cons_succ, i64_w, i32_w]
          rfl
        refine take_ (i := 5) (N := some 42) (v := ?_) (a' := ?_) #[true, true, true, false, true, true, false, false] rfl rfl (take_ofW HT_.out HW_.out (by kernel_rfl)) (fun _ _ _ h => h) (Or.inl ⟨by rfl, ?_⟩) hHeld ?_ ?_
        rotate_left
        · rintro w' ⟨s0, s1, s2, s3, s4, s5, s6, s7⟩
          go_simp
          with_reducible rfl
        rotate_left
        · simp only [Act.put, List.setIfInBounds_toArray, List.set_cons_zero, List.set_cons_succ, i64_w, i32_w]
          rfl
        refine one_ (i := 3) (N := some 40) #[true, true, true, true, true, true, false, false] rfl rfl (one_of HT_.out (by kernel_rfl)) (by decide) (fun K hK => ?_)
        refine goes_ Try.func57 (by kernel_rfl) rfl #[.slice Ao28 t133.length co28, .string a1_4] (by rfl) rfl rfl (by (try simp only [List.map_toArray, List.map_cons, List.map_nil]); first | done | rfl | (simp only [List.length_drop, List.length_take]; rfl) | (rw [Go.Proofs.Ytdpodjgggicaoaa.H.u64_id _ (by simp only [decide_eq_false_iff_not, decide_eq_true_eq, Nat.not_lt, Int.not_lt] at *; omega) (by simp only [decide_eq_false_iff_not, decide_eq_true_eq, Nat.not_lt, Int.not_lt] at *; omega)]; rfl)) ?_
        with_reducible refine (pack_PutText.calls _ _ t133 a1_4 t136 _ ?side1 ?side2 A17.out).mono ?_
        (case side1 => repeat (first | exact (Kd.R_reads' HO135.out).2.2 | (with_reducible refine Kd.C_alloc ?_ _) | (with_reducible refine Kd.C_drewN ?_ _) | (with_reducible refine Kd.C_drew ?_)))
        (case side2 => exact (Kd.R_reads' HO135.out).2.1)
        rintro e w29 ⟨v137, rfl, ho0, hb⟩
        refine ⟨_, rfl, ?_⟩
        have n0_ := Aside0.mk (Kd.V_elder' (by (with_reducible repeat (first | apply Kd.V_alloc | apply Kd.V_drewN | apply Kd.V_drew)); exact HO_0.out) (Kd.R_base ho0) hb)
        have n1_ := Aside0.mk (Kd.R_below (by (with_reducible repeat (first | apply Kd.R_alloc | apply Kd.R_drewN | apply Kd.R_drew)); exact HO_13.out) hb)
        have n2_ := Aside0.mk (Kd.R_elder' (by (with_reducible repeat (first | apply Kd.R_alloc | apply Kd.R_drewN | apply Kd.R_drew)); exact HO129.out) (Kd.R_base ho0) hb)
        have n3_ := Aside0.mk (Kd.R_elder' (by (with_reducible repeat (first | apply Kd.R_alloc | apply Kd.R_drewN | apply Kd.R_drew)); exact HO132.out) (Kd.R_base ho0) hb)
        have n4_ := Aside0.mk (Kd.R_elder' (by (with_reducible repeat (first | apply Kd.R_alloc | apply Kd.R_drewN | apply Kd.R_drew)); exact HO135.out) (Kd.R_base ho0) hb)
        have n5_ := Aside0.mk (Kd.R_lower (Kd.R_new' (Kd.R_new' (Kd.R_new' (Kd.R_newM (M := fun k_ => (w.heap.size ≤ k_)) ho0 (below_size (by repeat (first | (with_reducible first | exact HB.out | apply below_alloc | apply pw_below_drewN | apply below_drew1 | refine below_set ?_ GE119.out) | exact HB.out))) (fun k_ h_ => h_)) (Kd.R_lt (by (with_reducible repeat (first | apply Kd.R_alloc | apply Kd.R_drewN | apply Kd.R_drew)); exact HO129.out))) (Kd.R_lt (by (with_reducible repeat (first | apply Kd.R_alloc | apply Kd.R_drewN | apply Kd.R_drew)); exact HO132.out))) (Kd.R_lt (by (with_reducible repeat (first | apply Kd.R_alloc | apply Kd.R_drewN | apply Kd.R_drew)); exact HO135.out))) (below_size (by repeat (first | (with_reducible first | exact HB.out | apply below_alloc | apply pw_below_drewN | apply below_drew1 | refine below_set ?_ GE119.out) | exact HB.out))))
        have n6_ := Aside0.mk (blk_below (g := gb119) (o := .cells #[.int .u64 a1_0, .int .u64 a1_1, .int .u64 a1_2, .int .u8 a1_3, .string a1_4, .string a1_5, .int .i64 a1_6, .int .i64 a1_7] 77 (0, 0)) (by (with_reducible repeat (first | refine blk_drewN ?_ _ | refine blk_drew ?_ | refine blk_alloc ?_ _)); exact BK119.out) hb)
        have n7_ := Aside0.mk (below_step (by repeat (first | (with_reducible first | exact HB.out | apply below_alloc | apply pw_below_drewN | apply below_drew1 | refine below_set ?_ GE119.out) | exact HB.out)) hb)
        clear HO_0
        clear HO_13
        clear HO129
        clear HO132
        clear HO135
        clear BK119
        clear HB
        have HO_0 := n0_
        have HO_13 := n1_
        have HO129 := n2_
        have HO132 := n3_
        have HO135 := n4_
        have HO138 := n5_
        have BK119 := n6_
        have HB := n7_
        clear n0_ n1_ n2_ n3_ n4_ n5_ n6_ n7_
        (try clear hb)
        (try clear hb2)
        (try clear hk)
        (try clear hi)
        (try clear ho0)
        obtain ⟨Ao30, co30, eo30⟩ := Kd.R_slice HO138.out
        (first | subst eo30 | (injection eo30 with f1_ f2_ f3_; have f4_ := f1_.symm; have f5_ := f3_.symm; clear f1_ f2_ f3_; subst f4_; subst f5_))
        refine hK.out _ _ ⟨(blk_cell BK119.out 0).trans rfl, (blk_cell BK119.out 1).trans rfl, (blk_cell BK119.out 2).trans rfl, (blk_cell BK119.out 3).trans rfl, (blk_cell BK119.out 4).trans rfl, (blk_cell BK119.out 5).trans rfl, (blk_cell BK119.out 6).trans rfl, (blk_cell BK119.out 7).trans rfl⟩ (fun hHeld => ?_)
        clear hK K
        refine norm_ (a' := ?_) ?_ ?_
        rotate_left
        · show Act.put _ (some 40) _ = _
          simp only [Act.put, List.setIfInBounds_toArray, List.set_cons_zero, List.set_cons_succ, i64_w, i32_w]
          rfl
        refine one_ (i := 6) (N := some 43) #[true, true, true, true, true, true, true, false] rfl rfl (one_of HT_.out (by kernel_rfl)) (by decide) (fun K hK => ?_)
        refine goes_ Try.func57 (by kernel_rfl) rfl #[.slice Ao30 t136.length co30, .string a1_5] (by rfl) rfl rfl (by (try simp only [List.map_toArray, List.map_cons, List.map_nil]); first | done | rfl | (simp only [List.length_drop, List.length_take]; rfl) | (rw [Go.Proofs.Ytdpodjgggicaoaa.H.u64_id _ (by simp only [decide_eq_false_iff_not, decide_eq_true_eq, Nat.not_lt, Int.not_lt] at *; omega) (by simp only [decide_eq_false_iff_not, decide_eq_true_eq, Nat.not_lt, Int.not_lt] at *; omega)]; rfl)) ?_
        with_reducible refine (pack_PutText.calls _ _ t136 a1_5 t139 _ ?side1 ?side2 A18.out).mono ?_
        (case side1 => repeat (first | exact (Kd.R_reads' HO138.out).2.2 | (with_reducible refine Kd.C_alloc ?_ _) | (with_reducible refine Kd.C_drewN ?_ _) | (with_reducible refine Kd.C_drew ?_)))
        (case side2 => exact (Kd.R_reads' HO138.out).2.1)
        rintro e w31 ⟨v140, rfl, ho0, hb⟩
        refine ⟨_, rfl, ?_⟩
        have n0_ := Aside0.mk (Kd.V_elder' (by (with_reducible repeat (first | apply Kd.V_alloc | apply Kd.V_drewN | apply Kd.V_drew)); exact HO_0.out) (Kd.R_base ho0) hb)
        have n1_ := Aside0.mk (Kd.R_below (by (with_reducible repeat (first | apply Kd.R_alloc | apply Kd.R_drewN | apply Kd.R_drew)); exact HO_13.out) hb)
        have n2_ := Aside0.mk (Kd.R_elder' (by (with_reducible repeat (first | apply Kd.R_alloc | apply Kd.R_drewN | apply Kd.R_drew)); exact HO129.out) (Kd.R_base ho0) hb)
        have n3_ := Aside0.mk (Kd.R_elder' (by (with_reducible repeat (first | apply Kd.R_alloc | apply Kd.R_drewN | apply Kd.R_drew)); exact HO132.out) (Kd.R_base ho0) hb)
        have n4_ := Aside0.mk (Kd.R_elder' (by (with_reducible repeat (first | apply Kd.R_alloc | apply Kd.R_drewN | apply Kd.R_drew)); exact HO135.out) (Kd.R_base ho0) hb)
        have n5_ := Aside0.mk (Kd.R_elder' (by (with_reducible repeat (first | apply Kd.R_alloc | apply Kd.R_drewN | apply Kd.R_drew)); exact HO138.out) (Kd.R_base ho0) hb)
        have n6_ := Aside0.mk (Kd.R_lower (Kd.R_new' (Kd.R_new' (Kd.R_new' (Kd.R_new' (Kd.R_newM (M := fun k_ => (w.heap.size ≤ k_)) ho0 (below_size (by repeat (first | (with_reducible first | exact HB.out | apply below_alloc | apply pw_below_drewN | apply below_drew1 | refine below_set ?_ GE119.out) | exact HB.out))) (fun k_ h_ => h_)) (Kd.R_lt (by (with_reducible repeat (first | apply Kd.R_alloc | apply Kd.R_drewN | apply Kd.R_drew)); exact HO129.out))) (Kd.R_lt (by (with_reducible repeat (first | apply Kd.R_alloc | apply Kd.R_drewN | apply Kd.R_drew)); exact HO132.out))) (Kd.R_lt (by (with_reducible repeat (first | apply Kd.R_alloc | apply Kd.R_drewN | apply Kd.R_drew)); exact HO135.out))) (Kd.R_lt (by (with_reducible repeat (first | apply Kd.R_alloc | apply Kd.R_drewN | apply Kd.R_drew)); exact HO138.out))) (below_size (by repeat (first | (with_reducible first | exact HB.out | apply below_alloc | apply pw_below_drewN | apply below_drew1 | refine below_set ?_ GE119.out) | exact HB.out))))
        have n7_ := Aside0.mk (blk_below (g := gb119) (o := .cells #[.int .u64 a1_0, .int .u64 a1_1, .int .u64 a1_2, .int .u8 a1_3, .string a1_4, .string a1_5, .int .i64 a1_6, .int .i64 a1_7] 77 (0, 0)) (by (with_reducible repeat (first | refine blk_drewN ?_ _ | refine blk_drew ?_ | refine blk_alloc ?_ _)); exact BK119.out) hb)
        have n8_ := Aside0.mk (below_step (by repeat (first | (with_reducible first | exact HB.out | apply below_alloc | apply pw_below_drewN | apply below_drew1 | refine below_set ?_ GE119.out) | exact HB.out)) hb)
        clear HO_0
        clear HO_13
        clear HO129
        clear HO132
        clear HO135
        clear HO138
        clear BK119
        clear HB
        have HO_0 := n0_
        have HO_13 := n1_
        have HO129 := n2_
        have HO132 := n3_
        have HO135 := n4_
        have HO138 := n5_
        have HO141 := n6_
        have BK119 := n7_
        have HB := n8_
        clear n0_ n1_ n2_ n3_ n4_ n5_ n6_ n7_ n8_
        (try clear hb)
        (try clear hb2)
        (try clear hk)
        (try clear hi)
        (try clear ho0)
        refine hK.out _ _ ⟨(blk_cell BK119.out 0).trans rfl, (blk_cell BK119.out 1).trans rfl, (blk_cell BK119.out 2).trans rfl, (blk_cell BK119.out 3).trans rfl, (blk_cell BK119.out 4).trans rfl, (blk_cell BK119.out 5).trans rfl, (blk_cell BK119.out 6).trans rfl, (blk_cell BK119.out 7).trans rfl⟩ (fun hHeld => ?_)
        clear hK K
        refine norm_ (a' := ?_) ?_ ?_
        rotate_left
        · show Act.put _ (some 43) _ = _
          simp only [Act.put, List.setIfInBounds_toArray, List.set_cons_zero, List.set_cons_succ, i64_w, i32_w]
          rfl
        refine pure_ (i := 7) (N := some 4) (v := ?_) (a' := ?_) #[true, true, true, true, true, true, true, true] rfl rfl (any_of HT_.out (by kernel_rfl)) (fun _ _ _ h => h) (Or.inl ⟨by rfl, ?_⟩) ?_ ?_
        rotate_left
        · intro w'
          go_simp
          with_reducible rfl
        rotate_left
        · simp only [Act.put, List.setIfInBounds_toArray, List.set_cons_zero, List.set_cons_succ, i64_w, i32_w]
          rfl
        refine done_ (done_of HT_.out (by kernel_rfl)) ?_
        try go_wp2
        go_ret
        exact ⟨_, by first | rfl | (simp [errW_none, errW_some] <;> rfl) | (simp [*, errW_none, errW_some] <;> rfl), by (with_reducible repeat (first | apply Kd.R_alloc | apply Kd.R_drewN | apply Kd.R_drew)); exact Kd.R_mono HO141.out (fun _ hk => hk.1.1.1.1.1), by repeat (first | (with_reducible first | exact HB.out | apply below_alloc | apply pw_below_drewN | apply below_drew1 | refine below_set ?_ GE119.out) | exact HB.out)⟩
mutual
def wire_Put.j0 : Nat → List (S77) → Bool → Option (List Int × Int)
  | 0, _, _ => none
  | k + 1, x0, x14 => if x14 = true then (some (([] : List Int), 1)) else ((pack_Put.f (([83, 80, 65, 78] : List Int)) (IntKind.u64.wrap ((x0.length : Int))) 2).bind fun t145 => (wire_Put.l0 k t145 x0 (x0.length : Int) 0))
def wire_Put.l0 : Nat → List Int → List (S77) → Int → Int → Option (List Int × Int)
  | 0, _, _, _, _ => none
  | k + 1, x4, x21, x22, x23 => if x23 < x22 then (if 0 ≤ x23 then (if x23 < (x21.length : Int) then ((span_May.f k ((rd_T77 x21 x23).f0) ((rd_T77 x21 x23).f1) ((rd_T77 x21 x23).f2) ((rd_T77 x21 x23).f3) ((rd_T77 x21 x23).f4) ((rd_T77 x21 x23).f5) ((rd_T77 x21 x23).f6) ((rd_T77 x21 x23).f7)).bind fun t150 => (if t150 = true then ((wire_put.f k ([] : List Int) ((rd_T77 x21 x23).f0) ((rd_T77 x21 x23).f1) ((rd_T77 x21 x23).f2) ((rd_T77 x21 x23).f3) ((rd_T77 x21 x23).f4) ((rd_T77 x21 x23).f5) ((rd_T77 x21 x23).f6) ((rd_T77 x21 x23).f7)).bind fun t151 => (if x4.length + t151.length < 140737488355328 then (wire_Put.l0 k (x4 ++ t151) x21 x22 (wrap64 (x23 + 1))) else (none))) else (some (([] : List Int), 1)))) else (none)) else (none)) else (some (x4, 0))
end
def wire_Put.f (k : Nat) (l0 : List (S77)) : Option (List Int × Int) := if (l0.length : Int) < 1 then (wire_Put.j0 k l0 true) else (wire_Put.j0 k l0 (decide ((l0.length : Int) > 32)))
theorem wire_Put.mono_l : ∀ k, (∀ y0 y1, LeO (wire_Put.j0 k y0 y1) (wire_Put.j0 (k + 1) y0 y1)) ∧ (∀ y0 y1 y2 y3, LeO (wire_Put.l0 k y0 y1 y2 y3) (wire_Put.l0 (k + 1) y0 y1 y2 y3))
  | 0 => ⟨fun _ _ r h => by simp [wire_Put.j0] at h, fun _ _ _ _ r h => by simp [wire_Put.l0] at h⟩
  | k + 1 => by
    obtain ⟨ih0, ih1⟩ := wire_Put.mono_l k
    refine ⟨?_, ?_⟩
    · intro y0 y1
      unfold wire_Put.j0
      repeat' first
      | (with_reducible exact ih0 _ _)
      | (with_reducible exact ih1 _ _ _ _)
      | (with_reducible exact span_May.mono _ _ _ _ _ _ _ _ _)
      | (with_reducible exact wire_put.mono _ _ _ _ _ _ _ _ _ _)
      | (with_reducible exact LeO.refl _)
      | (with_reducible exact LeO.none _)
      | (with_reducible refine LeO.ite ?_ ?_)
      | (with_reducible refine LeO.bind ?_ (fun _ => ?_))
      | exact ih0 _ _
      | exact ih1 _ _ _ _
      | exact span_May.mono _ _ _ _ _ _ _ _ _
      | exact wire_put.mono _ _ _ _ _ _ _ _ _ _
      | exact LeO.none _
      | refine LeO.ite ?_ ?_
      | refine LeO.bind ?_ (fun _ => ?_)
    · intro y0 y1 y2 y3
      unfold wire_Put.l0
      repeat' first
      | (with_reducible exact ih0 _ _)
      | (with_reducible exact ih1 _ _ _ _)
      | (with_reducible exact span_May.mono _ _ _ _ _ _ _ _ _)
      | (with_reducible exact wire_put.mono _ _ _ _ _ _ _ _ _ _)
      | (with_reducible exact LeO.refl _)
      | (with_reducible exact LeO.none _)
      | (with_reducible refine LeO.ite ?_ ?_)
      | (with_reducible refine LeO.bind ?_ (fun _ => ?_))
      | exact ih0 _ _
      | exact ih1 _ _ _ _
      | exact span_May.mono _ _ _ _ _ _ _ _ _
      | exact wire_put.mono _ _ _ _ _ _ _ _ _ _
      | exact LeO.none _
      | refine LeO.ite ?_ ?_
      | refine LeO.bind ?_ (fun _ => ?_)
theorem wire_Put.mono : ∀ a0 k, LeO (wire_Put.f k a0) (wire_Put.f (k + 1) a0) := by
  intro a0 k
  obtain ⟨ih0, ih1⟩ := wire_Put.mono_l k
  unfold wire_Put.f
  repeat' first
      | (with_reducible exact ih0 _ _)
      | (with_reducible exact ih1 _ _ _ _)
      | (with_reducible exact span_May.mono _ _ _ _ _ _ _ _ _)
      | (with_reducible exact wire_put.mono _ _ _ _ _ _ _ _ _ _)
      | (with_reducible exact LeO.refl _)
      | (with_reducible exact LeO.none _)
      | (with_reducible refine LeO.ite ?_ ?_)
      | (with_reducible refine LeO.bind ?_ (fun _ => ?_))
      | exact ih0 _ _
      | exact ih1 _ _ _ _
      | exact span_May.mono _ _ _ _ _ _ _ _ _
      | exact wire_put.mono _ _ _ _ _ _ _ _ _ _
      | exact LeO.none _
      | refine LeO.ite ?_ ?_
      | refine LeO.bind ?_ (fun _ => ?_)
set_option maxHeartbeats 8000000 in
set_option maxRecDepth 100000 in
theorem wire_Put.calls (k : Nat) (A0 : Option Addr) (c0 : Nat) (l0 : List (S77)) (r1 : List Int) (r2 : Int) (w : World) (hr0 : Kd.C k77 w A0 l0.length l0) (hc0 : l0.length ≤ c0) (h : wire_Put.f k l0 = some (r1, r2)) :
    Calls Try.prog 17 #[.slice A0 l0.length c0] w fun e w' => ∃ v0_ : Value, e = .returned (.tuple #[v0_, .int .i64 r2]) ∧ Kd.R (Kd.int .u8) 5 w' w.heap.size (fun _ => True) v0_ r1 ∧ Below w.heap.size w w' := by
  have hu77 := Try.underlying77
  have HR0 := Aside0.mk hr0
  have HC0 := Aside0.mk hc0
  clear hr0 hc0
  have HB := Aside0.mk (Below.refl w.heap.size w)
  have H : (if (l0.length : Int) < 1 then (wire_Put.j0 k l0 true) else (wire_Put.j0 k l0 (decide ((l0.length : Int) > 32)))) = some (r1, r2) := h
  clear h
  have HC2 := Aside0.mk H
  clear H
  go_enter Try.func17, Try.ntmps17
  go_upto_region 1 with (fail)
  go_cut [14] (fun v14 wc => ∃ (kq : Nat) (x14_1 : Bool), v14 = .bool x14_1 ∧ Aside0 (wire_Put.j0 kq l0 x14_1 = some (r1, r2)) ∧ Aside0 (kq ≤ k) ∧ Aside0 (Below w.heap.size w wc))
  case first =>
    have H := HC2.out
    clear HC2
    by_cases c3 : (l0.length : Int) < 1
    · rw [if_pos c3] at H
      have c3b0 : decide ((l0.length : Int) < 1) = true := decide_eq_true c3
      have c3b1 : decide (l0.length < 1) = true := decide_eq_true (by omega)
      clear c3
      (first | rw [c3b0] | (simp only [i64_w, i32_w]; rw [c3b0]) | skip)
      have H' := Aside0.mk H
      clear H
      go_wp2
      go_meet
      case rel => exact ⟨_, (true), (by first | rfl | (simp; done) | (simp [*]; done)), H', ⟨by first | omega | exact Nat.le_refl _⟩, ⟨by repeat (first | (with_reducible first | exact HB.out | apply below_alloc | apply pw_below_drewN | apply below_drew1) | exact HB.out)⟩⟩
    · rw [if_neg c3] at H
      have c3b0 : decide ((l0.length : Int) < 1) = false := decide_eq_false c3
      have c3b1 : decide (l0.length < 1) = false := decide_eq_false (by omega)
      clear c3
      (first | rw [c3b0] | (simp only [i64_w, i32_w]; rw [c3b0]) | skip)
      have H' := Aside0.mk H
      clear H
      go_wp2
      go_meet
      case rel => exact ⟨_, (decide ((l0.length : Int) > 32)), (by first | rfl | (simp; done) | (simp [*]; done)), H', ⟨by first | omega | exact Nat.le_refl _⟩, ⟨by repeat (first | (with_reducible first | exact HB.out | apply below_alloc | apply pw_below_drewN | apply below_drew1) | exact HB.out)⟩⟩
  case rest =>
    clear HC2
    try clear c1
    try clear p2
    try clear c3
    try clear c3b0
    try clear c3b1
    obtain ⟨kq, x14_1, rfl, HA, HJ1, HB⟩ := hcut
    cases kq with
    | zero => exact absurd HA.out (by simp [wire_Put.j0])
    | succ kj1 =>
      have H := HA.out
      clear HA
      simp only [wire_Put.j0] at H
      by_cases c4 : x14_1 = true
      · subst c4
        have H1 : (some (([] : List Int), 1)) = some (r1, r2) := by rw [if_pos rfl] at H; exact H
        clear H
        have H := H1
        clear H1
        simp only [Option.some.injEq, Prod.mk.injEq] at H
        obtain ⟨rfl, rfl⟩ := H
        go_wp2
        go_ret2
        exact ⟨_, by first | rfl | (simp [errW_none, errW_some] <;> rfl) | (simp [*, errW_none, errW_some] <;> rfl), by first | exact Kd.R_nil _ _ _ _ _ | exact Kd.N_nil _ _ _ _ _ | exact Kd.V_nil _ _ _ _ _ | exact Kd.Q_nil _ _ _ _ _ | exact Kd.S_nil _ _ _ _ _, by repeat (first | (with_reducible first | exact HB.out | apply below_alloc | apply pw_below_drewN | apply below_drew1) | exact HB.out)⟩
      · replace c4 := Bool.eq_false_iff.mpr c4
        subst c4
        have H1 : ((pack_Put.f (([83, 80, 65, 78] : List Int)) (IntKind.u64.wrap ((l0.length : Int))) 2).bind fun t145 => (wire_Put.l0 kj1 t145 l0 (l0.length : Int) 0)) = some (r1, r2) := by rw [if_neg (show ¬ (false = true) by decide)] at H; exact H
        clear H
        have H := H1
        clear H1
        obtain ⟨y142, hy142⟩ : ∃ y_ : List Int, y_ = (([83, 80, 65, 78] : List Int)) := ⟨_, rfl⟩
        replace H : ((pack_Put.f y142 (IntKind.u64.wrap ((l0.length : Int))) 2).bind fun t145 => (wire_Put.l0 kj1 t145 l0 (l0.length : Int) 0)) = some (r1, r2) := by first | (rw [hy142]; with_reducible exact H) | (have H2_ := (Option.bind_some _ _).symm.trans H; rw [hy142]; with_reducible exact H2_) | (have H2_ := (Option.bind_some _ _).symm.trans H; with_reducible exact H2_) | with_reducible exact H | (rw [hy142]; exact H) | exact H
        have Ny142 := Aside0.mk hy142
        clear hy142
        replace H := Option.bind_eq_some_iff.mp H
        obtain ⟨t145, A50, H⟩ := H
        replace H : (wire_Put.l0 kj1 t145 l0 (l0.length : Int) 0) = some (r1, r2) := H
        have A5 := Aside0.mk A50
        clear A50
        have H' := Aside0.mk H
        clear H
        go_wp2_with (first | ((with_reducible refine gate_dst (N := 15) rfl ?_); (try (refine gate_guard (by rfl) ?_; dsimp only)); refine Go.Proofs.Ytdpodjgggicaoaa.H.lit_conv 5 25 ?hg (N1 := 15) ?hd rfl rfl Try.underlying25 Try.underlying5 (xs := ([83, 80, 65, 78] : List Int)) (C := ([.int .u8 83, .int .u8 80, .int .u8 65, .int .u8 78] : List Value).toArray) ?hN ?hr ?hC ?hl ?_; (case hd => rfl); (case hg => rfl); (case hN => first | decide | (simp; done)); (case hr => first | (go_simp; done) | (go_simp; rfl)); (case hC => rfl); (case hl => decide); intro v143 w6 ho7 hb; rw [← Ny142.out] at ho7; have n0_ := Aside0.mk ho7; have n1_ := Aside0.mk (below_step (by repeat (first | (with_reducible first | exact HB.out | apply below_alloc | apply pw_below_drewN | apply below_drew1) | exact HB.out)) hb); clear HB; have HO144 := n0_; have HB := n1_; clear n0_ n1_; clear hb ho7; obtain ⟨Ao8, co8, eo8⟩ := Go.Proofs.Ytdpodjgggicaoaa.H.litF_slice HO144.out; subst eo8) | ((with_reducible refine gate_callee (f := 37) rfl ?_); refine goesL_ (some 20) rfl rfl Try.func37 (by kernel_rfl) rfl #[.slice Ao8 y142.length co8, .int .u64 (IntKind.u64.wrap ((l0.length : Int))), .int .i64 2] rfl (by (try simp only [List.map_toArray, List.map_cons, List.map_nil]); first | done | rfl | (simp only [List.length_drop, List.length_take]; rfl) | (rw [Go.Proofs.Ytdpodjgggicaoaa.H.u64_id _ (by simp only [decide_eq_false_iff_not, decide_eq_true_eq, Nat.not_lt, Int.not_lt] at *; omega) (by simp only [decide_eq_false_iff_not, decide_eq_true_eq, Nat.not_lt, Int.not_lt] at *; omega)]; rfl)) ?_; (with_reducible refine (pack_Put.calls _ _ y142 (IntKind.u64.wrap ((l0.length : Int))) 2 t145 _ ?side1 ?side2 A5.out).mono ?_); (case side1 => repeat (first | exact (Go.Proofs.Ytdpodjgggicaoaa.H.litF_reads' HO144.out).2.2 | (with_reducible refine Kd.C_alloc ?_ _) | (with_reducible refine Kd.C_drewN ?_ _) | (with_reducible refine Kd.C_drew ?_))); (case side2 => exact (Go.Proofs.Ytdpodjgggicaoaa.H.litF_reads' HO144.out).2.1); rintro e w9 ⟨v146, rfl, ho0, hb⟩; refine ⟨_, rfl, ?_⟩; have n0_ := Aside0.mk (Go.Proofs.Ytdpodjgggicaoaa.H.litF_below (by (with_reducible repeat (first | apply Go.Proofs.Ytdpodjgggicaoaa.H.litF_alloc | apply Go.Proofs.Ytdpodjgggicaoaa.H.litF_drewN | apply Go.Proofs.Ytdpodjgggicaoaa.H.litF_drew)); exact HO144.out) hb); have n1_ := Aside0.mk (Kd.R_lower (Kd.R_new' ho0 (Go.Proofs.Ytdpodjgggicaoaa.H.litF_lt (by (with_reducible repeat (first | apply Go.Proofs.Ytdpodjgggicaoaa.H.litF_alloc | apply Go.Proofs.Ytdpodjgggicaoaa.H.litF_drewN | apply Go.Proofs.Ytdpodjgggicaoaa.H.litF_drew)); exact HO144.out))) (below_size (by repeat (first | (with_reducible first | exact HB.out | apply below_alloc | apply pw_below_drewN | apply below_drew1) | exact HB.out)))); have n2_ := Aside0.mk (below_step (by repeat (first | (with_reducible first | exact HB.out | apply below_alloc | apply pw_below_drewN | apply below_drew1) | exact HB.out)) hb); clear HO144; clear HB; have HO144 := n0_; have HO147 := n1_; have HB := n2_; clear n0_ n1_ n2_; (try clear hb); (try clear hb2); (try clear hk); (try clear hi); (try clear ho0)))
        go_loopg [4, 23] kj1 (fun kq v4 v23 w' => ∃ (x4_2 : List Int) (x23_2 : Int), v23 = .int .i64 x23_2 ∧ Aside0 (wire_Put.l0 kq x4_2 l0 (l0.length : Int) x23_2 = some (r1, r2)) ∧ Aside0 (kq ≤ kj1) ∧ Aside0 (Kd.R (Kd.int .u8) 5 w' w.heap.size (fun _ => True) v4 x4_2) ∧ Aside0 (Below w.heap.size w w'))
        case atStart => exact ⟨(t145), (0), (by first | rfl | (simp; done) | (simp [*]; done)), H', ⟨Nat.le_refl _⟩, ⟨by (with_reducible repeat (first | apply Kd.R_alloc | apply Kd.R_drewN | apply Kd.R_drew)); exact Kd.R_mono HO147.out (fun _ hk => trivial)⟩, ⟨by repeat (first | (with_reducible first | exact HB.out | apply below_alloc | apply pw_below_drewN | apply below_drew1) | exact HB.out)⟩⟩
        case round =>
          clear H'
          try clear c1
          try clear p2
          try clear c3
          try clear c3b0
          try clear c3b1
          try clear c4
          try clear p2
          obtain ⟨x4_2, x23_2, rfl, HA, HK2, HO_4, HB⟩ := hrel
          cases gk with
          | zero => exact absurd HA.out (by simp [wire_Put.l0])
          | succ k2 =>
            have H := HA.out
            clear HA
            simp only [wire_Put.l0] at H
            by_cases c10 : x23_2 < (l0.length : Int)
            · rw [if_pos c10] at H
              have c10b0 : decide (x23_2 < (l0.length : Int)) = true := decide_eq_true c10
              clear c10
              by_cases c11 : 0 ≤ x23_2
              · rw [if_pos c11] at H
                have c11b0 : decide (0 ≤ x23_2) = true := decide_eq_true c11
                clear c11
                by_cases c12 : x23_2 < (l0.length : Int)
                · rw [if_pos c12] at H
                  have c12b0 : decide (x23_2 < (l0.length : Int)) = true := decide_eq_true c12
                  clear c12
                  replace H := Option.bind_eq_some_iff.mp H
                  obtain ⟨t150, A130, H⟩ := H
                  replace H : (if t150 = true then ((wire_put.f k2 ([] : List Int) ((rd_T77 l0 x23_2).f0) ((rd_T77 l0 x23_2).f1) ((rd_T77 l0 x23_2).f2) ((rd_T77 l0 x23_2).f3) ((rd_T77 l0 x23_2).f4) ((rd_T77 l0 x23_2).f5) ((rd_T77 l0 x23_2).f6) ((rd_T77 l0 x23_2).f7)).bind fun t151 => (if x4_2.length + t151.length < 140737488355328 then (wire_Put.l0 k2 (x4_2 ++ t151) l0 (l0.length : Int) (wrap64 (x23_2 + 1))) else (none))) else (some (([] : List Int), 1))) = some (r1, r2) := H
                  have A13 := Aside0.mk A130
                  clear A130
                  by_cases c14 : t150 = true
                  · subst c14
                    have H1 : ((wire_put.f k2 ([] : List Int) ((rd_T77 l0 x23_2).f0) ((rd_T77 l0 x23_2).f1) ((rd_T77 l0 x23_2).f2) ((rd_T77 l0 x23_2).f3) ((rd_T77 l0 x23_2).f4) ((rd_T77 l0 x23_2).f5) ((rd_T77 l0 x23_2).f6) ((rd_T77 l0 x23_2).f7)).bind fun t151 => (if x4_2.length + t151.length < 140737488355328 then (wire_Put.l0 k2 (x4_2 ++ t151) l0 (l0.length : Int) (wrap64 (x23_2 + 1))) else (none))) = some (r1, r2) := by rw [if_pos rfl] at H; exact H
                    clear H
                    have H := H1
                    clear H1
                    replace H := Option.bind_eq_some_iff.mp H
                    obtain ⟨t151, A150, H⟩ := H
                    replace H : (if x4_2.length + t151.length < 140737488355328 then (wire_Put.l0 k2 (x4_2 ++ t151) l0 (l0.length : Int) (wrap64 (x23_2 + 1))) else (none)) = some (r1, r2) := H
                    have A15 := Aside0.mk A150
                    clear A150
                    by_cases c16 : x4_2.length + t151.length < 140737488355328
                    · rw [if_pos c16] at H
                      have LMc16 := Aside0.mk c16
                      clear c16
                      obtain ⟨y154, hy154⟩ : ∃ y_ : List Int, y_ = (x4_2 ++ t151) := ⟨_, rfl⟩
                      replace H : (wire_Put.l0 k2 y154 l0 (l0.length : Int) (wrap64 (x23_2 + 1))) = some (r1, r2) := by first | (rw [hy154]; with_reducible exact H) | (have H2_ := (Option.bind_some _ _).symm.trans H; rw [hy154]; with_reducible exact H2_) | (have H2_ := (Option.bind_some _ _).symm.trans H; with_reducible exact H2_) | with_reducible exact H | (rw [hy154]; exact H) | exact H
                      have Ny154 := Aside0.mk hy154
                      clear hy154
                      have H' := Aside0.mk H
                      clear H
                      have p148 : 0 ≤ (x23_2 : Int) := of_decide_eq_true (by first | (with_reducible assumption) | assumption)
                      have q148 : x23_2 < (l0.length : Int) := of_decide_eq_true (by first | (with_reducible assumption) | assumption)
                      obtain ⟨ad148, e148, hx148_0, hx148_1, hx148_2, hx148_3, hx148_4, hx148_5, hx148_6, hx148_7⟩ := at_T77 HR0.out x23_2 p148 q148
                      cases e148
                      replace hx148_0 := (HB.out.cell (World.block_lt_of_cell? w _ hx148_0)).trans hx148_0
                      replace hx148_1 := (HB.out.cell (World.block_lt_of_cell? w _ hx148_1)).trans hx148_1
                      replace hx148_2 := (HB.out.cell (World.block_lt_of_cell? w _ hx148_2)).trans hx148_2
                      replace hx148_3 := (HB.out.cell (World.block_lt_of_cell? w _ hx148_3)).trans hx148_3
                      replace hx148_4 := (HB.out.cell (World.block_lt_of_cell? w _ hx148_4)).trans hx148_4
                      replace hx148_5 := (HB.out.cell (World.block_lt_of_cell? w _ hx148_5)).trans hx148_5
                      replace hx148_6 := (HB.out.cell (World.block_lt_of_cell? w _ hx148_6)).trans hx148_6
                      replace hx148_7 := (HB.out.cell (World.block_lt_of_cell? w _ hx148_7)).trans hx148_7
                      replace p148 := eq_true p148
                      replace q148 := eq_true q148
                      go_wp2_with (first | ((with_reducible refine gate_dst (N := 6) rfl ?_); (try (refine gate_guard (by rfl) ?_; dsimp only)); refine box_event ?hg (N := 6) ?hd (cs := #[.int .u64 0, .int .u64 0, .int .u64 0, .int .u8 0, .string (⟨#[]⟩ : ByteArray), .string (⟨#[]⟩ : ByteArray), .int .i64 0, .int .i64 0]) (t := 77) ?hr ?_; (case hd => rfl); (case hg => rfl); (case hr => first | (go_simp; done) | (go_simp; rfl)); intro gb149 hg w17 hbox hb; have n0_ := Aside0.mk (Kd.R_below (by (with_reducible repeat (first | apply Kd.R_alloc | apply Kd.R_drewN | apply Kd.R_drew)); exact HO_4.out) hb); have n1_ := Aside0.mk (below_step (by repeat (first | (with_reducible first | exact HB.out | apply below_alloc | apply pw_below_drewN | apply below_drew1) | exact HB.out)) hb); have n2_ := Aside0.mk (hbox); have n3_ := Aside0.mk ((by rw [hg]; exact (below_size (by repeat (first | (with_reducible first | exact HB.out | apply below_alloc | apply pw_below_drewN | apply below_drew1) | exact HB.out))) : w.heap.size ≤ gb149)); have n4_ := Aside0.mk ((by rw [hg]; exact (below_size (by repeat (first | (with_reducible first | exact HB.out | apply below_alloc | apply pw_below_drewN | apply below_drew1) | exact HB.out))) : w.heap.size ≤ gb149)); clear HO_4; clear HB; have HO_4 := n0_; have HB := n1_; have BK149 := n2_; have GW149 := n3_; have GE149 := n4_; clear n0_ n1_ n2_ n3_ n4_; clear hb hbox hg; have hcz18_0 : w17.cell? ⟨gb149, 0, none⟩ = some (.int .u64 0) := (blk_cell BK149.out 0).trans rfl; have hcz18_1 : w17.cell? ⟨gb149, 1, none⟩ = some (.int .u64 0) := (blk_cell BK149.out 1).trans rfl; have hcz18_2 : w17.cell? ⟨gb149, 2, none⟩ = some (.int .u64 0) := (blk_cell BK149.out 2).trans rfl; have hcz18_3 : w17.cell? ⟨gb149, 3, none⟩ = some (.int .u8 0) := (blk_cell BK149.out 3).trans rfl; have hcz18_4 : w17.cell? ⟨gb149, 4, none⟩ = some (.string (⟨#[]⟩ : ByteArray)) := (blk_cell BK149.out 4).trans rfl; have hcz18_5 : w17.cell? ⟨gb149, 5, none⟩ = some (.string (⟨#[]⟩ : ByteArray)) := (blk_cell BK149.out 5).trans rfl; have hcz18_6 : w17.cell? ⟨gb149, 6, none⟩ = some (.int .i64 0) := (blk_cell BK149.out 6).trans rfl; have hcz18_7 : w17.cell? ⟨gb149, 7, none⟩ = some (.int .i64 0) := (blk_cell BK149.out 7).trans rfl; have hfz18_0 := blk_frozen BK149.out 0; have hfz18_1 := blk_frozen BK149.out 1; have hfz18_2 := blk_frozen BK149.out 2; have hfz18_3 := blk_frozen BK149.out 3; have hfz18_4 := blk_frozen BK149.out 4; have hfz18_5 := blk_frozen BK149.out 5; have hfz18_6 := blk_frozen BK149.out 6; have hfz18_7 := blk_frozen BK149.out 7) | ((with_reducible refine gate_callee (f := 38) rfl ?_); refine goesL_ (some 28) rfl rfl Try.func38 (by kernel_rfl) rfl #[.agg #[.int .u64 ((rd_T77 l0 x23_2).f0), .int .u64 ((rd_T77 l0 x23_2).f1), .int .u64 ((rd_T77 l0 x23_2).f2), .int .u8 ((rd_T77 l0 x23_2).f3), .string ((rd_T77 l0 x23_2).f4), .string ((rd_T77 l0 x23_2).f5), .int .i64 ((rd_T77 l0 x23_2).f6), .int .i64 ((rd_T77 l0 x23_2).f7)]] rfl (by (try simp only [List.map_toArray, List.map_cons, List.map_nil]); first | done | rfl | (simp only [List.length_drop, List.length_take]; rfl) | (rw [Go.Proofs.Ytdpodjgggicaoaa.H.u64_id _ (by simp only [decide_eq_false_iff_not, decide_eq_true_eq, Nat.not_lt, Int.not_lt] at *; omega) (by simp only [decide_eq_false_iff_not, decide_eq_true_eq, Nat.not_lt, Int.not_lt] at *; omega)]; rfl)) ?_; (with_reducible refine (span_May.calls k2 ((rd_T77 l0 x23_2).f0) ((rd_T77 l0 x23_2).f1) ((rd_T77 l0 x23_2).f2) ((rd_T77 l0 x23_2).f3) ((rd_T77 l0 x23_2).f4) ((rd_T77 l0 x23_2).f5) ((rd_T77 l0 x23_2).f6) ((rd_T77 l0 x23_2).f7) true _ A13.out).mono ?_); rintro e w19 ⟨rfl, hb⟩; refine ⟨_, rfl, ?_⟩; have n0_ := Aside0.mk (Kd.R_below (by (with_reducible repeat (first | apply Kd.R_alloc | apply Kd.R_drewN | apply Kd.R_drew)); exact (Kd.R_mono (Kd.R_far (p := ⟨gb149, 7, none⟩) (Kd.R_far (p := ⟨gb149, 6, none⟩) (Kd.R_far (p := ⟨gb149, 5, none⟩) (Kd.R_far (p := ⟨gb149, 4, none⟩) (Kd.R_far (p := ⟨gb149, 3, none⟩) (Kd.R_far (p := ⟨gb149, 2, none⟩) (Kd.R_far (p := ⟨gb149, 1, none⟩) (Kd.R_far (p := ⟨gb149, 0, none⟩) (Kd.R_types HO_4.out BK149.out (by decide)) (fun _ hk => hk.2) (.int .u64 ((rd_T77 l0 x23_2).f0))) (fun _ hk => hk.2) (.int .u64 ((rd_T77 l0 x23_2).f1))) (fun _ hk => hk.2) (.int .u64 ((rd_T77 l0 x23_2).f2))) (fun _ hk => hk.2) (.int .u8 ((rd_T77 l0 x23_2).f3))) (fun _ hk => hk.2) (.string ((rd_T77 l0 x23_2).f4))) (fun _ hk => hk.2) (.string ((rd_T77 l0 x23_2).f5))) (fun _ hk => hk.2) (.int .i64 ((rd_T77 l0 x23_2).f6))) (fun _ hk => hk.2) (.int .i64 ((rd_T77 l0 x23_2).f7))) (fun _ h_ => h_.1))) hb); have n1_ := Aside0.mk (blk_below (g := gb149) (o := .cells #[.int .u64 ((rd_T77 l0 x23_2).f0), .int .u64 ((rd_T77 l0 x23_2).f1), .int .u64 ((rd_T77 l0 x23_2).f2), .int .u8 ((rd_T77 l0 x23_2).f3), .string ((rd_T77 l0 x23_2).f4), .string ((rd_T77 l0 x23_2).f5), .int .i64 ((rd_T77 l0 x23_2).f6), .int .i64 ((rd_T77 l0 x23_2).f7)] 77 (0, 0)) (by (with_reducible repeat (first | refine blk_drewN ?_ _ | refine blk_drew ?_ | refine blk_alloc ?_ _)); refine blk_put (cs := #[.int .u64 ((rd_T77 l0 x23_2).f0), .int .u64 ((rd_T77 l0 x23_2).f1), .int .u64 ((rd_T77 l0 x23_2).f2), .int .u8 ((rd_T77 l0 x23_2).f3), .string ((rd_T77 l0 x23_2).f4), .string ((rd_T77 l0 x23_2).f5), .int .i64 ((rd_T77 l0 x23_2).f6), .int .i64 0]) ?_ 7 _ rfl; (with_reducible repeat (first | refine blk_drewN ?_ _ | refine blk_drew ?_ | refine blk_alloc ?_ _)); refine blk_put (cs := #[.int .u64 ((rd_T77 l0 x23_2).f0), .int .u64 ((rd_T77 l0 x23_2).f1), .int .u64 ((rd_T77 l0 x23_2).f2), .int .u8 ((rd_T77 l0 x23_2).f3), .string ((rd_T77 l0 x23_2).f4), .string ((rd_T77 l0 x23_2).f5), .int .i64 0, .int .i64 0]) ?_ 6 _ rfl; (with_reducible repeat (first | refine blk_drewN ?_ _ | refine blk_drew ?_ | refine blk_alloc ?_ _)); refine blk_put (cs := #[.int .u64 ((rd_T77 l0 x23_2).f0), .int .u64 ((rd_T77 l0 x23_2).f1), .int .u64 ((rd_T77 l0 x23_2).f2), .int .u8 ((rd_T77 l0 x23_2).f3), .string ((rd_T77 l0 x23_2).f4), .string (⟨#[]⟩ : ByteArray), .int .i64 0, .int .i64 0]) ?_ 5 _ rfl; (with_reducible repeat (first | refine blk_drewN ?_ _ | refine blk_drew ?_ | refine blk_alloc ?_ _)); refine blk_put (cs := #[.int .u64 ((rd_T77 l0 x23_2).f0), .int .u64 ((rd_T77 l0 x23_2).f1), .int .u64 ((rd_T77 l0 x23_2).f2), .int .u8 ((rd_T77 l0 x23_2).f3), .string (⟨#[]⟩ : ByteArray), .string (⟨#[]⟩ : ByteArray), .int .i64 0, .int .i64 0]) ?_ 4 _ rfl; (with_reducible repeat (first | refine blk_drewN ?_ _ | refine blk_drew ?_ | refine blk_alloc ?_ _)); refine blk_put (cs := #[.int .u64 ((rd_T77 l0 x23_2).f0), .int .u64 ((rd_T77 l0 x23_2).f1), .int .u64 ((rd_T77 l0 x23_2).f2), .int .u8 0, .string (⟨#[]⟩ : ByteArray), .string (⟨#[]⟩ : ByteArray), .int .i64 0, .int .i64 0]) ?_ 3 _ rfl; (with_reducible repeat (first | refine blk_drewN ?_ _ | refine blk_drew ?_ | refine blk_alloc ?_ _)); refine blk_put (cs := #[.int .u64 ((rd_T77 l0 x23_2).f0), .int .u64 ((rd_T77 l0 x23_2).f1), .int .u64 0, .int .u8 0, .string (⟨#[]⟩ : ByteArray), .string (⟨#[]⟩ : ByteArray), .int .i64 0, .int .i64 0]) ?_ 2 _ rfl; (with_reducible repeat (first | refine blk_drewN ?_ _ | refine blk_drew ?_ | refine blk_alloc ?_ _)); refine blk_put (cs := #[.int .u64 ((rd_T77 l0 x23_2).f0), .int .u64 0, .int .u64 0, .int .u8 0, .string (⟨#[]⟩ : ByteArray), .string (⟨#[]⟩ : ByteArray), .int .i64 0, .int .i64 0]) ?_ 1 _ rfl; (with_reducible repeat (first | refine blk_drewN ?_ _ | refine blk_drew ?_ | refine blk_alloc ?_ _)); refine blk_put (cs := #[.int .u64 0, .int .u64 0, .int .u64 0, .int .u8 0, .string (⟨#[]⟩ : ByteArray), .string (⟨#[]⟩ : ByteArray), .int .i64 0, .int .i64 0]) ?_ 0 _ rfl; (with_reducible repeat (first | refine blk_drewN ?_ _ | refine blk_drew ?_ | refine blk_alloc ?_ _)); exact BK149.out) hb); have n2_ := Aside0.mk (below_step (by repeat (first | (with_reducible first | exact HB.out | apply below_alloc | apply pw_below_drewN | apply below_drew1 | refine below_set ?_ GE149.out) | exact HB.out)) hb); clear HO_4; clear BK149; clear HB; have HO_4 := n0_; have BK149 := n1_; have HB := n2_; clear n0_ n1_ n2_; (try clear hb); (try clear hb2); (try clear hk); (try clear hi); have hcz20_0 : w19.cell? ⟨gb149, 0, none⟩ = some (.int .u64 ((rd_T77 l0 x23_2).f0)) := (blk_cell BK149.out 0).trans rfl; have hcz20_1 : w19.cell? ⟨gb149, 1, none⟩ = some (.int .u64 ((rd_T77 l0 x23_2).f1)) := (blk_cell BK149.out 1).trans rfl; have hcz20_2 : w19.cell? ⟨gb149, 2, none⟩ = some (.int .u64 ((rd_T77 l0 x23_2).f2)) := (blk_cell BK149.out 2).trans rfl; have hcz20_3 : w19.cell? ⟨gb149, 3, none⟩ = some (.int .u8 ((rd_T77 l0 x23_2).f3)) := (blk_cell BK149.out 3).trans rfl; have hcz20_4 : w19.cell? ⟨gb149, 4, none⟩ = some (.string ((rd_T77 l0 x23_2).f4)) := (blk_cell BK149.out 4).trans rfl; have hcz20_5 : w19.cell? ⟨gb149, 5, none⟩ = some (.string ((rd_T77 l0 x23_2).f5)) := (blk_cell BK149.out 5).trans rfl; have hcz20_6 : w19.cell? ⟨gb149, 6, none⟩ = some (.int .i64 ((rd_T77 l0 x23_2).f6)) := (blk_cell BK149.out 6).trans rfl; have hcz20_7 : w19.cell? ⟨gb149, 7, none⟩ = some (.int .i64 ((rd_T77 l0 x23_2).f7)) := (blk_cell BK149.out 7).trans rfl; have hfz20_0 := blk_frozen BK149.out 0; have hfz20_1 := blk_frozen BK149.out 1; have hfz20_2 := blk_frozen BK149.out 2; have hfz20_3 := blk_frozen BK149.out 3; have hfz20_4 := blk_frozen BK149.out 4; have hfz20_5 := blk_frozen BK149.out 5; have hfz20_6 := blk_frozen BK149.out 6; have hfz20_7 := blk_frozen BK149.out 7) | ((with_reducible refine gate_callee (f := 39) rfl ?_); refine goesL_ (some 32) rfl rfl Try.func39 (by kernel_rfl) rfl #[.slice none 0 0, .agg #[.int .u64 ((rd_T77 l0 x23_2).f0), .int .u64 ((rd_T77 l0 x23_2).f1), .int .u64 ((rd_T77 l0 x23_2).f2), .int .u8 ((rd_T77 l0 x23_2).f3), .string ((rd_T77 l0 x23_2).f4), .string ((rd_T77 l0 x23_2).f5), .int .i64 ((rd_T77 l0 x23_2).f6), .int .i64 ((rd_T77 l0 x23_2).f7)]] rfl (by (try simp only [List.map_toArray, List.map_cons, List.map_nil]); first | done | rfl | (simp only [List.length_drop, List.length_take]; rfl) | (rw [Go.Proofs.Ytdpodjgggicaoaa.H.u64_id _ (by simp only [decide_eq_false_iff_not, decide_eq_true_eq, Nat.not_lt, Int.not_lt] at *; omega) (by simp only [decide_eq_false_iff_not, decide_eq_true_eq, Nat.not_lt, Int.not_lt] at *; omega)]; rfl)) ?_; (refine (wire_put.calls k2 (fun k_ => False) _ _ ([] : List Int) ((rd_T77 l0 x23_2).f0) ((rd_T77 l0 x23_2).f1) ((rd_T77 l0 x23_2).f2) ((rd_T77 l0 x23_2).f3) ((rd_T77 l0 x23_2).f4) ((rd_T77 l0 x23_2).f5) ((rd_T77 l0 x23_2).f6) ((rd_T77 l0 x23_2).f7) t151 _ ?side1 A15.out).mono ?_); (case side1 => exact Kd.V_nil _ _ _ _ _); rintro e w21 ⟨v152, rfl, ho0, hb⟩; refine ⟨_, rfl, ?_⟩; have n0_ := Aside0.mk (Kd.R_elder' (by (with_reducible repeat (first | apply Kd.R_alloc | apply Kd.R_drewN | apply Kd.R_drew)); exact HO_4.out) (Kd.R_base ho0) hb); have n1_ := Aside0.mk (Kd.R_lower (Kd.R_new' (Kd.R_mono (ok' := fun k_ => True) ho0 (fun _ hk_ => trivial)) (Kd.R_lt (by (with_reducible repeat (first | apply Kd.R_alloc | apply Kd.R_drewN | apply Kd.R_drew)); exact HO_4.out))) (below_size (by repeat (first | (with_reducible first | exact HB.out | apply below_alloc | apply pw_below_drewN | apply below_drew1 | refine below_set ?_ GE149.out) | exact HB.out)))); have n2_ := Aside0.mk (blk_below (g := gb149) (o := .cells #[.int .u64 ((rd_T77 l0 x23_2).f0), .int .u64 ((rd_T77 l0 x23_2).f1), .int .u64 ((rd_T77 l0 x23_2).f2), .int .u8 ((rd_T77 l0 x23_2).f3), .string ((rd_T77 l0 x23_2).f4), .string ((rd_T77 l0 x23_2).f5), .int .i64 ((rd_T77 l0 x23_2).f6), .int .i64 ((rd_T77 l0 x23_2).f7)] 77 (0, 0)) (by (with_reducible repeat (first | refine blk_drewN ?_ _ | refine blk_drew ?_ | refine blk_alloc ?_ _)); exact BK149.out) hb); have n3_ := Aside0.mk (below_step (by repeat (first | (with_reducible first | exact HB.out | apply below_alloc | apply pw_below_drewN | apply below_drew1 | refine below_set ?_ GE149.out) | exact HB.out)) hb); clear HO_4; clear BK149; clear HB; have HO_4 := n0_; have HO153 := n1_; have BK149 := n2_; have HB := n3_; clear n0_ n1_ n2_ n3_; (try clear hb); (try clear hb2); (try clear hk); (try clear hi); (try clear ho0); obtain ⟨Ao23, co23, eo23⟩ := Kd.R_slice HO153.out; subst eo23) | ((with_reducible refine gate_builtin (b := .append) (xs := #[.tmp 30, .tmp 32]) rfl ?_); (try (refine gate_guard (by rfl) ?_; dsimp only)); at_builtin; refine Kd.R_append_rows (Kd.int .u8) (w0 := w) w.heap.size rfl (.tmp 30) (.tmp 32) 25 5 (.int .u8 0) 1 rfl Try.underlying25 info5 rfl (by decide) (by omega) u4 x4_2 t151 _ _ _ (fun k_ => some k_ ≠ (.slice Ao23 t151.length co23 : Value).ownBlock) (fun _ => False) rfl rfl ?aO ?aR (fun _ _ h => h) (fun _ h => h.elim) ?aF ?aB ?aS ?aL ?_; (case aR => repeat (first | exact (Kd.R_reads' HO153.out).2.2 | (with_reducible refine Kd.C_alloc ?_ _) | (with_reducible refine Kd.C_drewN ?_ _) | (with_reducible refine Kd.C_drew ?_))); (case aB => exact (by repeat (first | (with_reducible first | exact HB.out | apply below_alloc | apply pw_below_drewN | apply below_drew1 | refine below_set ?_ GE149.out) | exact HB.out))); (case aF => exact (fun k_ hk => Kd.fresh' (Kd.R_lt (by (with_reducible repeat (first | apply Kd.R_alloc | apply Kd.R_drewN | apply Kd.R_drew)); exact HO153.out)) k_ hk)); (case aO => exact (by (with_reducible repeat (first | apply Kd.R_alloc | apply Kd.R_drewN | apply Kd.R_drew)); exact Kd.R_mono HO_4.out (fun _ hk => hk.2))); (case aS => exact (below_size (by repeat (first | (with_reducible first | exact HB.out | apply below_alloc | apply pw_below_drewN | apply below_drew1 | refine below_set ?_ GE149.out) | exact HB.out)))); (case aL => have := LMc16.out; omega); intro v155 w22 ho hb hg hat; rw [← Ny154.out] at ho; have n0_ := Aside0.mk (blk_grown (g := gb149) (o := .cells #[.int .u64 ((rd_T77 l0 x23_2).f0), .int .u64 ((rd_T77 l0 x23_2).f1), .int .u64 ((rd_T77 l0 x23_2).f2), .int .u8 ((rd_T77 l0 x23_2).f3), .string ((rd_T77 l0 x23_2).f4), .string ((rd_T77 l0 x23_2).f5), .int .i64 ((rd_T77 l0 x23_2).f6), .int .i64 ((rd_T77 l0 x23_2).f7)] 77 (0, 0)) (by (with_reducible repeat (first | refine blk_drewN ?_ _ | refine blk_drew ?_ | refine blk_alloc ?_ _)); exact BK149.out) hg (Kd.R_ne HO_4.out BK149.out (by decide))); have n1_ := Aside0.mk (Kd.R_after (ok := (fun _ => True)) (by (with_reducible repeat (first | apply Kd.R_alloc | apply Kd.R_drewN | apply Kd.R_drew)); exact HO153.out) hg hat); have n2_ := Aside0.mk (hb); have n3_ := Aside0.mk (ho); clear BK149; clear HO153; clear HB; clear HO_4; have BK149 := n0_; have HO153 := n1_; have HB := n2_; have HO156 := n3_; clear n0_ n1_ n2_ n3_; clear ho hb hg hat))
                      go_roundg k2
                      case measure => have := HJ1.out; have := HK2.out; omega
                      case rel => exact ⟨(y154), (wrap64 (x23_2 + 1)), (by first | rfl | (simp; done) | (simp [*]; done)), H', ⟨by have := HJ1.out; have := HK2.out; omega⟩, ⟨by (with_reducible repeat (first | apply Kd.R_alloc | apply Kd.R_drewN | apply Kd.R_drew)); exact Kd.R_mono HO156.out (fun _ hk => trivial)⟩, ⟨by repeat (first | (with_reducible first | exact HB.out | apply below_alloc | apply pw_below_drewN | apply below_drew1 | refine below_set ?_ GE149.out) | exact HB.out)⟩⟩
                    · rw [if_neg c16] at H
                      exact absurd H (by simp)
                  · replace c14 := Bool.eq_false_iff.mpr c14
                    subst c14
                    have H1 : (some (([] : List Int), 1)) = some (r1, r2) := by rw [if_neg (show ¬ (false = true) by decide)] at H; exact H
                    clear H
                    have H := H1
                    clear H1
                    simp only [Option.some.injEq, Prod.mk.injEq] at H
                    obtain ⟨rfl, rfl⟩ := H
                    have p148 : 0 ≤ (x23_2 : Int) := of_decide_eq_true (by first | (with_reducible assumption) | assumption)
                    have q148 : x23_2 < (l0.length : Int) := of_decide_eq_true (by first | (with_reducible assumption) | assumption)
                    obtain ⟨ad148, e148, hx148_0, hx148_1, hx148_2, hx148_3, hx148_4, hx148_5, hx148_6, hx148_7⟩ := at_T77 HR0.out x23_2 p148 q148
                    cases e148
                    replace hx148_0 := (HB.out.cell (World.block_lt_of_cell? w _ hx148_0)).trans hx148_0
                    replace hx148_1 := (HB.out.cell (World.block_lt_of_cell? w _ hx148_1)).trans hx148_1
                    replace hx148_2 := (HB.out.cell (World.block_lt_of_cell? w _ hx148_2)).trans hx148_2
                    replace hx148_3 := (HB.out.cell (World.block_lt_of_cell? w _ hx148_3)).trans hx148_3
                    replace hx148_4 := (HB.out.cell (World.block_lt_of_cell? w _ hx148_4)).trans hx148_4
                    replace hx148_5 := (HB.out.cell (World.block_lt_of_cell? w _ hx148_5)).trans hx148_5
                    replace hx148_6 := (HB.out.cell (World.block_lt_of_cell? w _ hx148_6)).trans hx148_6
                    replace hx148_7 := (HB.out.cell (World.block_lt_of_cell? w _ hx148_7)).trans hx148_7
                    replace p148 := eq_true p148
                    replace q148 := eq_true q148
                    go_wp2_with (first | ((with_reducible refine gate_dst (N := 6) rfl ?_); (try (refine gate_guard (by rfl) ?_; dsimp only)); refine box_event ?hg (N := 6) ?hd (cs := #[.int .u64 0, .int .u64 0, .int .u64 0, .int .u8 0, .string (⟨#[]⟩ : ByteArray), .string (⟨#[]⟩ : ByteArray), .int .i64 0, .int .i64 0]) (t := 77) ?hr ?_; (case hd => rfl); (case hg => rfl); (case hr => first | (go_simp; done) | (go_simp; rfl)); intro gb149 hg w24 hbox hb; have n0_ := Aside0.mk (Kd.R_below (by (with_reducible repeat (first | apply Kd.R_alloc | apply Kd.R_drewN | apply Kd.R_drew)); exact HO_4.out) hb); have n1_ := Aside0.mk (below_step (by repeat (first | (with_reducible first | exact HB.out | apply below_alloc | apply pw_below_drewN | apply below_drew1) | exact HB.out)) hb); have n2_ := Aside0.mk (hbox); have n3_ := Aside0.mk ((by rw [hg]; exact (below_size (by repeat (first | (with_reducible first | exact HB.out | apply below_alloc | apply pw_below_drewN | apply below_drew1) | exact HB.out))) : w.heap.size ≤ gb149)); have n4_ := Aside0.mk ((by rw [hg]; exact (below_size (by repeat (first | (with_reducible first | exact HB.out | apply below_alloc | apply pw_below_drewN | apply below_drew1) | exact HB.out))) : w.heap.size ≤ gb149)); clear HO_4; clear HB; have HO_4 := n0_; have HB := n1_; have BK149 := n2_; have GW149 := n3_; have GE149 := n4_; clear n0_ n1_ n2_ n3_ n4_; clear hb hbox hg; have hcz25_0 : w24.cell? ⟨gb149, 0, none⟩ = some (.int .u64 0) := (blk_cell BK149.out 0).trans rfl; have hcz25_1 : w24.cell? ⟨gb149, 1, none⟩ = some (.int .u64 0) := (blk_cell BK149.out 1).trans rfl; have hcz25_2 : w24.cell? ⟨gb149, 2, none⟩ = some (.int .u64 0) := (blk_cell BK149.out 2).trans rfl; have hcz25_3 : w24.cell? ⟨gb149, 3, none⟩ = some (.int .u8 0) := (blk_cell BK149.out 3).trans rfl; have hcz25_4 : w24.cell? ⟨gb149, 4, none⟩ = some (.string (⟨#[]⟩ : ByteArray)) := (blk_cell BK149.out 4).trans rfl; have hcz25_5 : w24.cell? ⟨gb149, 5, none⟩ = some (.string (⟨#[]⟩ : ByteArray)) := (blk_cell BK149.out 5).trans rfl; have hcz25_6 : w24.cell? ⟨gb149, 6, none⟩ = some (.int .i64 0) := (blk_cell BK149.out 6).trans rfl; have hcz25_7 : w24.cell? ⟨gb149, 7, none⟩ = some (.int .i64 0) := (blk_cell BK149.out 7).trans rfl; have hfz25_0 := blk_frozen BK149.out 0; have hfz25_1 := blk_frozen BK149.out 1; have hfz25_2 := blk_frozen BK149.out 2; have hfz25_3 := blk_frozen BK149.out 3; have hfz25_4 := blk_frozen BK149.out 4; have hfz25_5 := blk_frozen BK149.out 5; have hfz25_6 := blk_frozen BK149.out 6; have hfz25_7 := blk_frozen BK149.out 7) | ((with_reducible refine gate_callee (f := 38) rfl ?_); refine goesL_ (some 28) rfl rfl Try.func38 (by kernel_rfl) rfl #[.agg #[.int .u64 ((rd_T77 l0 x23_2).f0), .int .u64 ((rd_T77 l0 x23_2).f1), .int .u64 ((rd_T77 l0 x23_2).f2), .int .u8 ((rd_T77 l0 x23_2).f3), .string ((rd_T77 l0 x23_2).f4), .string ((rd_T77 l0 x23_2).f5), .int .i64 ((rd_T77 l0 x23_2).f6), .int .i64 ((rd_T77 l0 x23_2).f7)]] rfl (by (try simp only [List.map_toArray, List.map_cons, List.map_nil]); first | done | rfl | (simp only [List.length_drop, List.length_take]; rfl) | (rw [Go.Proofs.Ytdpodjgggicaoaa.H.u64_id _ (by simp only [decide_eq_false_iff_not, decide_eq_true_eq, Nat.not_lt, Int.not_lt] at *; omega) (by simp only [decide_eq_false_iff_not, decide_eq_true_eq, Nat.not_lt, Int.not_lt] at *; omega)]; rfl)) ?_; (with_reducible refine (span_May.calls k2 ((rd_T77 l0 x23_2).f0) ((rd_T77 l0 x23_2).f1) ((rd_T77 l0 x23_2).f2) ((rd_T77 l0 x23_2).f3) ((rd_T77 l0 x23_2).f4) ((rd_T77 l0 x23_2).f5) ((rd_T77 l0 x23_2).f6) ((rd_T77 l0 x23_2).f7) false _ A13.out).mono ?_); rintro e w26 ⟨rfl, hb⟩; refine ⟨_, rfl, ?_⟩; have n0_ := Aside0.mk (Kd.R_below (by (with_reducible repeat (first | apply Kd.R_alloc | apply Kd.R_drewN | apply Kd.R_drew)); exact (Kd.R_mono (Kd.R_far (p := ⟨gb149, 7, none⟩) (Kd.R_far (p := ⟨gb149, 6, none⟩) (Kd.R_far (p := ⟨gb149, 5, none⟩) (Kd.R_far (p := ⟨gb149, 4, none⟩) (Kd.R_far (p := ⟨gb149, 3, none⟩) (Kd.R_far (p := ⟨gb149, 2, none⟩) (Kd.R_far (p := ⟨gb149, 1, none⟩) (Kd.R_far (p := ⟨gb149, 0, none⟩) (Kd.R_types HO_4.out BK149.out (by decide)) (fun _ hk => hk.2) (.int .u64 ((rd_T77 l0 x23_2).f0))) (fun _ hk => hk.2) (.int .u64 ((rd_T77 l0 x23_2).f1))) (fun _ hk => hk.2) (.int .u64 ((rd_T77 l0 x23_2).f2))) (fun _ hk => hk.2) (.int .u8 ((rd_T77 l0 x23_2).f3))) (fun _ hk => hk.2) (.string ((rd_T77 l0 x23_2).f4))) (fun _ hk => hk.2) (.string ((rd_T77 l0 x23_2).f5))) (fun _ hk => hk.2) (.int .i64 ((rd_T77 l0 x23_2).f6))) (fun _ hk => hk.2) (.int .i64 ((rd_T77 l0 x23_2).f7))) (fun _ h_ => h_.1))) hb); have n1_ := Aside0.mk (blk_below (g := gb149) (o := .cells #[.int .u64 ((rd_T77 l0 x23_2).f0), .int .u64 ((rd_T77 l0 x23_2).f1), .int .u64 ((rd_T77 l0 x23_2).f2), .int .u8 ((rd_T77 l0 x23_2).f3), .string ((rd_T77 l0 x23_2).f4), .string ((rd_T77 l0 x23_2).f5), .int .i64 ((rd_T77 l0 x23_2).f6), .int .i64 ((rd_T77 l0 x23_2).f7)] 77 (0, 0)) (by (with_reducible repeat (first | refine blk_drewN ?_ _ | refine blk_drew ?_ | refine blk_alloc ?_ _)); refine blk_put (cs := #[.int .u64 ((rd_T77 l0 x23_2).f0), .int .u64 ((rd_T77 l0 x23_2).f1), .int .u64 ((rd_T77 l0 x23_2).f2), .int .u8 ((rd_T77 l0 x23_2).f3), .string ((rd_T77 l0 x23_2).f4), .string ((rd_T77 l0 x23_2).f5), .int .i64 ((rd_T77 l0 x23_2).f6), .int .i64 0]) ?_ 7 _ rfl; (with_reducible repeat (first | refine blk_drewN ?_ _ | refine blk_drew ?_ | refine blk_alloc ?_ _)); refine blk_put (cs := #[.int .u64 ((rd_T77 l0 x23_2).f0), .int .u64 ((rd_T77 l0 x23_2).f1), .int .u64 ((rd_T77 l0 x23_2).f2), .int .u8 ((rd_T77 l0 x23_2).f3), .string ((rd_T77 l0 x23_2).f4), .string ((rd_T77 l0 x23_2).f5), .int .i64 0, .int .i64 0]) ?_ 6 _ rfl; (with_reducible repeat (first | refine blk_drewN ?_ _ | refine blk_drew ?_ | refine blk_alloc ?_ _)); refine blk_put (cs := #[.int .u64 ((rd_T77 l0 x23_2).f0), .int .u64 ((rd_T77 l0 x23_2).f1), .int .u64 ((rd_T77 l0 x23_2).f2), .int .u8 ((rd_T77 l0 x23_2).f3), .string ((rd_T77 l0 x23_2).f4), .string (⟨#[]⟩ : ByteArray), .int .i64 0, .int .i64 0]) ?_ 5 _ rfl; (with_reducible repeat (first | refine blk_drewN ?_ _ | refine blk_drew ?_ | refine blk_alloc ?_ _)); refine blk_put (cs := #[.int .u64 ((rd_T77 l0 x23_2).f0), .int .u64 ((rd_T77 l0 x23_2).f1), .int .u64 ((rd_T77 l0 x23_2).f2), .int .u8 ((rd_T77 l0 x23_2).f3), .string (⟨#[]⟩ : ByteArray), .string (⟨#[]⟩ : ByteArray), .int .i64 0, .int .i64 0]) ?_ 4 _ rfl; (with_reducible repeat (first | refine blk_drewN ?_ _ | refine blk_drew ?_ | refine blk_alloc ?_ _)); refine blk_put (cs := #[.int .u64 ((rd_T77 l0 x23_2).f0), .int .u64 ((rd_T77 l0 x23_2).f1), .int .u64 ((rd_T77 l0 x23_2).f2), .int .u8 0, .string (⟨#[]⟩ : ByteArray), .string (⟨#[]⟩ : ByteArray), .int .i64 0, .int .i64 0]) ?_ 3 _ rfl; (with_reducible repeat (first | refine blk_drewN ?_ _ | refine blk_drew ?_ | refine blk_alloc ?_ _)); refine blk_put (cs := #[.int .u64 ((rd_T77 l0 x23_2).f0), .int .u64 ((rd_T77 l0 x23_2).f1), .int .u64 0, .int .u8 0, .string (⟨#[]⟩ : ByteArray), .string (⟨#[]⟩ : ByteArray), .int .i64 0, .int .i64 0]) ?_ 2 _ rfl; (with_reducible repeat (first | refine blk_drewN ?_ _ | refine blk_drew ?_ | refine blk_alloc ?_ _)); refine blk_put (cs := #[.int .u64 ((rd_T77 l0 x23_2).f0), .int .u64 0, .int .u64 0, .int .u8 0, .string (⟨#[]⟩ : ByteArray), .string (⟨#[]⟩ : ByteArray), .int .i64 0, .int .i64 0]) ?_ 1 _ rfl; (with_reducible repeat (first | refine blk_drewN ?_ _ | refine blk_drew ?_ | refine blk_alloc ?_ _)); refine blk_put (cs := #[.int .u64 0, .int .u64 0, .int .u64 0, .int .u8 0, .string (⟨#[]⟩ : ByteArray), .string (⟨#[]⟩ : ByteArray), .int .i64 0, .int .i64 0]) ?_ 0 _ rfl; (with_reducible repeat (first | refine blk_drewN ?_ _ | refine blk_drew ?_ | refine blk_alloc ?_ _)); exact BK149.out) hb); have n2_ := Aside0.mk (below_step (by repeat (first | (with_reducible first | exact HB.out | apply below_alloc | apply pw_below_drewN | apply below_drew1 | refine below_set ?_ GE149.out) | exact HB.out)) hb); clear HO_4; clear BK149; clear HB; have HO_4 := n0_; have BK149 := n1_; have HB := n2_; clear n0_ n1_ n2_; (try clear hb); (try clear hb2); (try clear hk); (try clear hi)))
                    go_ret2
                    exact ⟨_, by first | rfl | (simp [errW_none, errW_some] <;> rfl) | (simp [*, errW_none, errW_some] <;> rfl), by first | exact Kd.R_nil _ _ _ _ _ | exact Kd.N_nil _ _ _ _ _ | exact Kd.V_nil _ _ _ _ _ | exact Kd.Q_nil _ _ _ _ _ | exact Kd.S_nil _ _ _ _ _, by repeat (first | (with_reducible first | exact HB.out | apply below_alloc | apply pw_below_drewN | apply below_drew1 | refine below_set ?_ GE149.out) | exact HB.out)⟩
                · rw [if_neg c12] at H
                  exact absurd H (by simp)
              · rw [if_neg c11] at H
                exact absurd H (by simp)
            · rw [if_neg c10] at H
              have c10b0 : decide (x23_2 < (l0.length : Int)) = false := decide_eq_false c10
              clear c10
              simp only [Option.some.injEq, Prod.mk.injEq] at H
              obtain ⟨rfl, rfl⟩ := H
              go_wp2
              go_ret2
              exact ⟨_, by first | rfl | (simp [errW_none, errW_some] <;> rfl) | (simp [*, errW_none, errW_some] <;> rfl), by (with_reducible repeat (first | apply Kd.R_alloc | apply Kd.R_drewN | apply Kd.R_drew)); exact HO_4.out, by repeat (first | (with_reducible first | exact HB.out | apply below_alloc | apply pw_below_drewN | apply below_drew1) | exact HB.out)⟩
def check_steps.l0 : Nat → Int → Int → Option (Int)
  | 0, _, _ => none
  | k + 1, x0, x3 => if x3 < 8 then (if (Go.bits .and .u32 x0 1) = 0 then (check_steps.l0 k (x0 / 2) (wrap64 (x3 + 1))) else (check_steps.l0 k (Go.bits .xor .u32 (x0 / 2) 3988292384) (wrap64 (x3 + 1)))) else (some x0)
def check_steps.f (k : Nat) (a0 : Int) : Option (Int) := check_steps.l0 k a0 0
theorem check_steps.mono_l : ∀ k, (∀ y0 y1, LeO (check_steps.l0 k y0 y1) (check_steps.l0 (k + 1) y0 y1))
  | 0 => fun _ _ r h => by simp [check_steps.l0] at h
  | k + 1 => by
    have ih0 := check_steps.mono_l k
    · intro y0 y1
      unfold check_steps.l0
      repeat' first
      | (with_reducible exact ih0 _ _)
      | (with_reducible exact LeO.refl _)
      | (with_reducible exact LeO.none _)
      | (with_reducible refine LeO.ite ?_ ?_)
      | (with_reducible refine LeO.bind ?_ (fun _ => ?_))
      | exact ih0 _ _
      | exact LeO.none _
      | refine LeO.ite ?_ ?_
      | refine LeO.bind ?_ (fun _ => ?_)
theorem check_steps.mono : ∀ a0 k, LeO (check_steps.f k a0) (check_steps.f (k + 1) a0) := by
  intro a0 k
  have ih0 := check_steps.mono_l k
  unfold check_steps.f
  repeat' first
      | (with_reducible exact ih0 _ _)
      | (with_reducible exact LeO.refl _)
      | (with_reducible exact LeO.none _)
      | (with_reducible refine LeO.ite ?_ ?_)
      | (with_reducible refine LeO.bind ?_ (fun _ => ?_))
      | exact ih0 _ _
      | exact LeO.none _
      | refine LeO.ite ?_ ?_
      | refine LeO.bind ?_ (fun _ => ?_)
set_option maxHeartbeats 8000000 in
set_option maxRecDepth 100000 in
theorem check_steps.calls (k : Nat) (a0 : Int) (r : Int) (w : World) (h : check_steps.f k a0 = some r) :
    Calls Try.prog 72 #[.int .u32 a0] w fun e w' => e = .returned (.int .u32 r) ∧ Drawn0 w w' := by
  have H : (check_steps.l0 k a0 0) = some r := h
  clear h
  have H' := Aside0.mk H
  clear H
  go_enter Try.func72, Try.ntmps72
  go_wp2
  go_loopg [0, 3] k (fun kq v0 v3 w' => ∃ (x0_1 : Int) (x3_1 : Int), v0 = .int .u32 x0_1 ∧ v3 = .int .i64 x3_1 ∧ Aside0 (check_steps.l0 kq x0_1 x3_1 = some r) ∧ Aside0 (kq ≤ k) ∧ Drawn0 w w')
  case atStart => exact ⟨(a0), (0), (by first | rfl | (simp; done) | (simp [*]; done)), (by first | rfl | (simp; done) | (simp [*]; done)), H', ⟨Nat.le_refl _⟩, by repeat (first | exact Drawn0.refl _ | apply Drawn0.step)⟩
  case round =>
    clear H'
    obtain ⟨x0_1, x3_1, rfl, rfl, HA, HK1, ⟨m1, rfl⟩⟩ := hrel
    cases gk with
    | zero => exact absurd HA.out (by simp [check_steps.l0])
    | succ k1 =>
      have H := HA.out
      clear HA
      simp only [check_steps.l0] at H
      by_cases c2 : x3_1 < 8
      · rw [if_pos c2] at H
        have c2b0 : decide (x3_1 < 8) = true := decide_eq_true c2
        clear c2
        by_cases c3 : (Go.bits .and .u32 x0_1 1) = 0
        · rw [if_pos c3] at H
          have c3b0 : ((Go.bits .and .u32 x0_1 1) == 0) = true := beq_iff_eq.mpr c3
          have c3b1 : ((Go.bits .and .u32 x0_1 1) != 0) = false := bne_eq_false_iff_eq.mpr c3
          clear c3
          have H' := Aside0.mk H
          clear H
          go_wp2
          go_roundg k1
          case measure => have := HK1.out; omega
          case rel => exact ⟨(x0_1 / 2), (wrap64 (x3_1 + 1)), (by first | rfl | (simp; done) | (simp [*]; done)), (by first | rfl | (simp; done) | (simp [*]; done)), H', ⟨by have := HK1.out; omega⟩, by repeat (first | exact Drawn0.refl _ | apply Drawn0.step)⟩
        · rw [if_neg c3] at H
          have c3b0 : ((Go.bits .and .u32 x0_1 1) == 0) = false := beq_eq_false_iff_ne.mpr c3
          have c3b1 : ((Go.bits .and .u32 x0_1 1) != 0) = true := bne_iff_ne.mpr c3
          have H' := Aside0.mk H
          clear H
          go_wp2
          go_roundg k1
          case measure => have := HK1.out; omega
          case rel => exact ⟨(Go.bits .xor .u32 (x0_1 / 2) 3988292384), (wrap64 (x3_1 + 1)), (by first | rfl | (simp; done) | (simp [*]; done)), (by first | rfl | (simp; done) | (simp [*]; done)), H', ⟨by have := HK1.out; omega⟩, by repeat (first | exact Drawn0.refl _ | apply Drawn0.step)⟩
      · rw [if_neg c2] at H
        have c2b0 : decide (x3_1 < 8) = false := decide_eq_false c2
        clear c2
        obtain rfl := Option.some.inj H
        go_wp2
        go_ret
        exact ⟨by first | rfl | (simp; done) | (simp [*]; done), by repeat (first | exact Drawn0.refl _ | apply Drawn0.step)⟩
end Go.Proofs.Ytdpodjgggicaoaa.SO
