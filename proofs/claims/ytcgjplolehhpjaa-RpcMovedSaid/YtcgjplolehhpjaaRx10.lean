-- WRITTEN FOR THIS CLAIM by wip/tools/mp.py, a program of this project that drives the kit's print; the functions that the print does not take are this project's own texts.
import Derived.Test.YtcgjplolehhpjaaRx0
import Derived.Test.YtcgjplolehhpjaaRx2
import Derived.Test.YtcgjplolehhpjaaRx4
namespace Go.Proofs.Ytcgjplolehhpjaa.R
open Go.RowKit Go.Proofs.YtcgjplolehhpjaaW.PrintWords Go.Proofs.YtcgjplolehhpjaaW.PrintLast Go.Proofs.YtcgjplolehhpjaaW.PrintMore
attribute [local go_sem] max2_int min2_int max_two min_two max_three min_three max_four min_four   -- for this text's walks alone
set_option linter.unusedVariables false
set_option linter.unusedSimpArgs false

/-! ### merkhetlaw12_RpcMoved: function 11 -/
mutual
def merkhetlaw12_RpcMoved.j0 : Nat → List (S37) → Int → Bool → Int → Int → Option (Bool)
  | 0, _, _, _, _, _ => none
  | k + 1, x0, x2, x33, x206000, x206001 => if x33 = true then ((merkhetlaw12_fixed.f k).bind fun t207 => (some t207)) else ((rpc_Gaps.f k x0 x206000 x206001).bind fun bt208 => (if bt208.2.2 = true then (if x206000 < 0 then (merkhetlaw12_RpcMoved.j1 k x0 x2 bt208.1 bt208.2.1 bt208.2.2 true x206000 x206001) else (if x206000 ≥ (x0.length : Int) then (merkhetlaw12_RpcMoved.j1 k x0 x2 bt208.1 bt208.2.1 bt208.2.2 true x206000 x206001) else (if x206001 < 0 then (merkhetlaw12_RpcMoved.j1 k x0 x2 bt208.1 bt208.2.1 bt208.2.2 true x206000 x206001) else (merkhetlaw12_RpcMoved.j1 k x0 x2 bt208.1 bt208.2.1 bt208.2.2 (decide (x206001 ≥ (x0.length : Int))) x206000 x206001)))) else (merkhetlaw12_RpcMoved.j1 k x0 x2 bt208.1 bt208.2.1 bt208.2.2 true x206000 x206001)))
def merkhetlaw12_RpcMoved.j1 : Nat → List (S37) → Int → Int → Int → Bool → Bool → Int → Int → Option (Bool)
  | 0, _, _, _, _, _, _, _, _ => none
  | k + 1, x0, x2, x7, x8, x9, x67, x206000, x206001 => if x67 = true then ((merkhetlaw12_fixed.f k).bind fun t211 => (if t211 = true then (some (!x9)) else (some false))) else ((some (([] : List (S37)) : List (S37))).bind fun y212 => (if y212.length + x0.length < 1759218604441 then ((some (y212 ++ x0 : List (S37))).bind fun y215 => (if 0 ≤ x206001 then (if x206001 < (y215.length : Int) then ((some (y215.set (x206001 : Int).toNat (⟨(rd_T37 y215 x206001).f0, (rd_T37 y215 x206001).f1, (rd_T37 y215 x206001).f2, (rd_T37 y215 x206001).f3, (rd_T37 y215 x206001).f4, (rd_T37 y215 x206001).f5, wrap64 (((rd_T37 y215 x206001).f6) + x2), (rd_T37 y215 x206001).f7⟩ : S37) : List (S37))).bind fun y219 => ((rpc_Gaps.f k y219 x206000 x206001).bind fun bt220 => (if bt220.2.2 = true then (if bt220.1 = (wrap64 (x7 + x2)) then (merkhetlaw12_RpcMoved.j2 k x2 x7 x8 y219 (bt220.2.1 != (wrap64 (x8 - x2))) x206000 x206001) else (merkhetlaw12_RpcMoved.j2 k x2 x7 x8 y219 true x206000 x206001)) else (merkhetlaw12_RpcMoved.j2 k x2 x7 x8 y219 false x206000 x206001)))) else (none)) else (none))) else (none)))
def merkhetlaw12_RpcMoved.j2 : Nat → Int → Int → Int → List (S37) → Bool → Int → Int → Option (Bool)
  | 0, _, _, _, _, _, _, _ => none
  | k + 1, x2, x7, x8, x10, x107, x206000, x206001 => if x107 = true then (some false) else (if 0 ≤ x206000 then (if x206000 < (x10.length : Int) then ((rpc_Gaps.f k (x10.set (x206000 : Int).toNat (⟨(rd_T37 x10 x206000).f0, (rd_T37 x10 x206000).f1, (rd_T37 x10 x206000).f2, (rd_T37 x10 x206000).f3, (rd_T37 x10 x206000).f4, (rd_T37 x10 x206000).f5, wrap64 (((rd_T37 x10 x206000).f6) + x2), (rd_T37 x10 x206000).f7⟩ : S37)) x206000 x206001).bind fun bt225 => ((merkhetlaw12_fixed.f k).bind fun t228 => (if t228 = true then (if bt225.2.2 = true then (if bt225.1 = x7 then (some (bt225.2.1 == x8)) else (some false)) else (some true)) else (some false)))) else (none)) else (none))
end
def merkhetlaw12_RpcMoved.f (k : Nat) (l0 : List (S37)) (a1_0 : Int) (a1_1 : Int) (a2 : Int) : Option (Bool) := (merkhetlaw04_Great.f k l0).bind fun t206 => (if t206 = true then (merkhetlaw12_RpcMoved.j0 k l0 a2 true a1_0 a1_1) else (if a2 > 1125899906842624 then (merkhetlaw12_RpcMoved.j0 k l0 a2 true a1_0 a1_1) else (if a2 < (-1125899906842624) then (merkhetlaw12_RpcMoved.j0 k l0 a2 true a1_0 a1_1) else (merkhetlaw12_RpcMoved.j0 k l0 a2 (a1_0 == a1_1) a1_0 a1_1))))
theorem merkhetlaw12_RpcMoved.mono_l : ∀ k, (∀ y0 y1 y2 y3 y4, LeO (merkhetlaw12_RpcMoved.j0 k y0 y1 y2 y3 y4) (merkhetlaw12_RpcMoved.j0 (k + 1) y0 y1 y2 y3 y4)) ∧ (∀ y0 y1 y2 y3 y4 y5 y6 y7, LeO (merkhetlaw12_RpcMoved.j1 k y0 y1 y2 y3 y4 y5 y6 y7) (merkhetlaw12_RpcMoved.j1 (k + 1) y0 y1 y2 y3 y4 y5 y6 y7)) ∧ (∀ y0 y1 y2 y3 y4 y5 y6, LeO (merkhetlaw12_RpcMoved.j2 k y0 y1 y2 y3 y4 y5 y6) (merkhetlaw12_RpcMoved.j2 (k + 1) y0 y1 y2 y3 y4 y5 y6))
  | 0 => ⟨fun _ _ _ _ _ r h => by simp [merkhetlaw12_RpcMoved.j0] at h, fun _ _ _ _ _ _ _ _ r h => by simp [merkhetlaw12_RpcMoved.j1] at h, fun _ _ _ _ _ _ _ r h => by simp [merkhetlaw12_RpcMoved.j2] at h⟩
  | k + 1 => by
    obtain ⟨ih0, ih1, ih2⟩ := merkhetlaw12_RpcMoved.mono_l k
    refine ⟨?_, ?_, ?_⟩
    · intro y0 y1 y2 y3 y4
      unfold merkhetlaw12_RpcMoved.j0
      repeat' first
      | (with_reducible exact ih0 _ _ _ _ _)
      | (with_reducible exact ih1 _ _ _ _ _ _ _ _)
      | (with_reducible exact ih2 _ _ _ _ _ _ _)
      | (with_reducible exact merkhetlaw04_Great.mono _ _)
      | (with_reducible exact merkhetlaw12_fixed.mono _)
      | (with_reducible exact rpc_Gaps.mono _ _ _ _)
      | (with_reducible exact LeO.refl _)
      | (with_reducible exact LeO.none _)
      | (with_reducible refine LeO.ite ?_ ?_)
      | (with_reducible refine LeO.bind ?_ (fun _ => ?_))
      | exact ih0 _ _ _ _ _
      | exact ih1 _ _ _ _ _ _ _ _
      | exact ih2 _ _ _ _ _ _ _
      | exact merkhetlaw04_Great.mono _ _
      | exact merkhetlaw12_fixed.mono _
      | exact rpc_Gaps.mono _ _ _ _
      | exact LeO.none _
      | refine LeO.ite ?_ ?_
      | refine LeO.bind ?_ (fun _ => ?_)
    · intro y0 y1 y2 y3 y4 y5 y6 y7
      unfold merkhetlaw12_RpcMoved.j1
      repeat' first
      | (with_reducible exact ih0 _ _ _ _ _)
      | (with_reducible exact ih1 _ _ _ _ _ _ _ _)
      | (with_reducible exact ih2 _ _ _ _ _ _ _)
      | (with_reducible exact merkhetlaw04_Great.mono _ _)
      | (with_reducible exact merkhetlaw12_fixed.mono _)
      | (with_reducible exact rpc_Gaps.mono _ _ _ _)
      | (with_reducible exact LeO.refl _)
      | (with_reducible exact LeO.none _)
      | (with_reducible refine LeO.ite ?_ ?_)
      | (with_reducible refine LeO.bind ?_ (fun _ => ?_))
      | exact ih0 _ _ _ _ _
      | exact ih1 _ _ _ _ _ _ _ _
      | exact ih2 _ _ _ _ _ _ _
      | exact merkhetlaw04_Great.mono _ _
      | exact merkhetlaw12_fixed.mono _
      | exact rpc_Gaps.mono _ _ _ _
      | exact LeO.none _
      | refine LeO.ite ?_ ?_
      | refine LeO.bind ?_ (fun _ => ?_)
    · intro y0 y1 y2 y3 y4 y5 y6
      unfold merkhetlaw12_RpcMoved.j2
      repeat' first
      | (with_reducible exact ih0 _ _ _ _ _)
      | (with_reducible exact ih1 _ _ _ _ _ _ _ _)
      | (with_reducible exact ih2 _ _ _ _ _ _ _)
      | (with_reducible exact merkhetlaw04_Great.mono _ _)
      | (with_reducible exact merkhetlaw12_fixed.mono _)
      | (with_reducible exact rpc_Gaps.mono _ _ _ _)
      | (with_reducible exact LeO.refl _)
      | (with_reducible exact LeO.none _)
      | (with_reducible refine LeO.ite ?_ ?_)
      | (with_reducible refine LeO.bind ?_ (fun _ => ?_))
      | exact ih0 _ _ _ _ _
      | exact ih1 _ _ _ _ _ _ _ _
      | exact ih2 _ _ _ _ _ _ _
      | exact merkhetlaw04_Great.mono _ _
      | exact merkhetlaw12_fixed.mono _
      | exact rpc_Gaps.mono _ _ _ _
      | exact LeO.none _
      | refine LeO.ite ?_ ?_
      | refine LeO.bind ?_ (fun _ => ?_)
theorem merkhetlaw12_RpcMoved.mono : ∀ a0 a1 a2 a3 k, LeO (merkhetlaw12_RpcMoved.f k a0 a1 a2 a3) (merkhetlaw12_RpcMoved.f (k + 1) a0 a1 a2 a3) := by
  intro a0 a1 a2 a3 k
  obtain ⟨ih0, ih1, ih2⟩ := merkhetlaw12_RpcMoved.mono_l k
  unfold merkhetlaw12_RpcMoved.f
  repeat' first
      | (with_reducible exact ih0 _ _ _ _ _)
      | (with_reducible exact ih1 _ _ _ _ _ _ _ _)
      | (with_reducible exact ih2 _ _ _ _ _ _ _)
      | (with_reducible exact merkhetlaw04_Great.mono _ _)
      | (with_reducible exact merkhetlaw12_fixed.mono _)
      | (with_reducible exact rpc_Gaps.mono _ _ _ _)
      | (with_reducible exact LeO.refl _)
      | (with_reducible exact LeO.none _)
      | (with_reducible refine LeO.ite ?_ ?_)
      | (with_reducible refine LeO.bind ?_ (fun _ => ?_))
      | exact ih0 _ _ _ _ _
      | exact ih1 _ _ _ _ _ _ _ _
      | exact ih2 _ _ _ _ _ _ _
      | exact merkhetlaw04_Great.mono _ _
      | exact merkhetlaw12_fixed.mono _
      | exact rpc_Gaps.mono _ _ _ _
      | exact LeO.none _
      | refine LeO.ite ?_ ?_
      | refine LeO.bind ?_ (fun _ => ?_)
set_option maxHeartbeats 8000000 in
set_option maxRecDepth 100000 in
theorem merkhetlaw12_RpcMoved.calls (k : Nat) (A0 : Option Addr) (c0 : Nat) (l0 : List (S37)) (a1_0 : Int) (a1_1 : Int) (a2 : Int) (r : Bool) (w : World) (hr0 : Kd.C k37 w A0 l0.length l0) (hc0 : l0.length ≤ c0) (h : merkhetlaw12_RpcMoved.f k l0 a1_0 a1_1 a2 = some r) :
    Calls Try.prog 11 #[.slice A0 l0.length c0, .agg #[.int .i64 a1_0, .int .i64 a1_1], .int .i64 a2] w fun e w' => e = .returned (.bool r) ∧ Below w.heap.size w w' := by
  have hu46 := Try.underlying46
  have HR0 := Aside0.mk hr0
  have HC0 := Aside0.mk hc0
  clear hr0 hc0
  have HB := Aside0.mk (Below.refl w.heap.size w)
  have H : ((merkhetlaw04_Great.f k l0).bind fun t206 => (if t206 = true then (merkhetlaw12_RpcMoved.j0 k l0 a2 true a1_0 a1_1) else (if a2 > 1125899906842624 then (merkhetlaw12_RpcMoved.j0 k l0 a2 true a1_0 a1_1) else (if a2 < (-1125899906842624) then (merkhetlaw12_RpcMoved.j0 k l0 a2 true a1_0 a1_1) else (merkhetlaw12_RpcMoved.j0 k l0 a2 (a1_0 == a1_1) a1_0 a1_1))))) = some r := h
  clear h
  have HC4 := Aside0.mk H
  clear H
  go_enter Try.func11, Try.ntmps11
  go_upto_region 1 with (first | ((with_reducible refine gate_dst (N := 4) rfl ?_); (try (refine gate_guard (by rfl) ?_; dsimp only)); refine box_event ?hg (N := 4) ?hd (cs := #[.int .i64 a1_0, .int .i64 a1_1]) (t := 46) ?hr ?_; (case hd => rfl); (case hg => rfl); (case hr => first | (go_simp; done) | (go_simp; rfl)); intro gb205 hg w5 hbox hb; have n0_ := Aside0.mk (below_step (by repeat (first | (with_reducible first | exact HB.out | apply below_alloc | apply pw_below_drewN | apply below_drew1) | exact HB.out)) hb); have n1_ := Aside0.mk (hbox); have n2_ := Aside0.mk ((by rw [hg]; exact (below_size (by repeat (first | (with_reducible first | exact HB.out | apply below_alloc | apply pw_below_drewN | apply below_drew1) | exact HB.out))) : w.heap.size ≤ gb205)); have n3_ := Aside0.mk ((by rw [hg]; exact (below_size (by repeat (first | (with_reducible first | exact HB.out | apply below_alloc | apply pw_below_drewN | apply below_drew1) | exact HB.out))) : w.heap.size ≤ gb205)); clear HB; have HB := n0_; have BK205 := n1_; have GW205 := n2_; have GE205 := n3_; clear n0_ n1_ n2_ n3_; clear hb hbox hg))
  (try simp only [Act.put, List.setIfInBounds_toArray, List.set_cons_zero, List.set_cons_succ])
  go_cut [33] (fun v33 wc => ∃ (kq : Nat) (x33_3 : Bool), v33 = .bool x33_3 ∧ Aside0 (merkhetlaw12_RpcMoved.j0 kq l0 a2 x33_3 a1_0 a1_1 = some r) ∧ Aside0 (kq ≤ k) ∧ Aside0 (wc.heap[gb205]? = some (.cells #[.int .i64 a1_0, .int .i64 a1_1] 46 (0, 0))) ∧ Aside0 (Below w.heap.size w wc))
  case first =>
    have H := HC4.out
    clear HC4
    replace H := Option.bind_eq_some_iff.mp H
    obtain ⟨t206, A60, H⟩ := H
    replace H : (if t206 = true then (merkhetlaw12_RpcMoved.j0 k l0 a2 true a1_0 a1_1) else (if a2 > 1125899906842624 then (merkhetlaw12_RpcMoved.j0 k l0 a2 true a1_0 a1_1) else (if a2 < (-1125899906842624) then (merkhetlaw12_RpcMoved.j0 k l0 a2 true a1_0 a1_1) else (merkhetlaw12_RpcMoved.j0 k l0 a2 (a1_0 == a1_1) a1_0 a1_1)))) = some r := H
    have A6 := Aside0.mk A60
    clear A60
    by_cases c7 : t206 = true
    · subst c7
      have H1 : (merkhetlaw12_RpcMoved.j0 k l0 a2 true a1_0 a1_1) = some r := by rw [if_pos rfl] at H; exact H
      clear H
      have H := H1
      clear H1
      have H' := Aside0.mk H
      clear H
      go_wp2_with (first | ((with_reducible refine gate_callee (f := 30) rfl ?_); refine goesL_ (some 18) rfl rfl Try.func30 (by kernel_rfl) rfl #[.slice A0 l0.length c0] rfl (by (try simp only [List.map_toArray, List.map_cons, List.map_nil]); first | done | rfl | (simp only [List.length_drop, List.length_take]; rfl)) ?_; (with_reducible refine (merkhetlaw04_Great.calls k _ _ l0 true _ ?side1 ?side2 A6.out).mono ?_); (case side1 => repeat (first | exact (Kd.C_below HR0.out HB.out) | (with_reducible refine Kd.C_alloc ?_ _) | (with_reducible refine Kd.C_drewN ?_ _) | (with_reducible refine Kd.C_drew ?_))); (case side2 => exact HC0.out); rintro e w8 ⟨rfl, hb⟩; refine ⟨_, rfl, ?_⟩; have n0_ := Aside0.mk (blk_below (g := gb205) (o := .cells #[.int .i64 a1_0, .int .i64 a1_1] 46 (0, 0)) (by (with_reducible repeat (first | refine blk_drewN ?_ _ | refine blk_drew ?_ | refine blk_alloc ?_ _)); exact BK205.out) hb); have n1_ := Aside0.mk (below_step (by repeat (first | (with_reducible first | exact HB.out | apply below_alloc | apply pw_below_drewN | apply below_drew1 | refine below_set ?_ GE205.out) | exact HB.out)) hb); clear BK205; clear HB; have BK205 := n0_; have HB := n1_; clear n0_ n1_; (try clear hb); (try clear hb2); (try clear hk); (try clear hi)))
      go_meet
      case rel => exact ⟨_, (true), (by first | rfl | (simp; done) | (simp [*]; done)), H', ⟨by first | omega | exact Nat.le_refl _⟩, ⟨by (with_reducible repeat (first | refine blk_drewN ?_ _ | refine blk_drew ?_ | refine blk_alloc ?_ _)); exact BK205.out⟩, ⟨by repeat (first | (with_reducible first | exact HB.out | apply below_alloc | apply pw_below_drewN | apply below_drew1 | refine below_set ?_ GE205.out) | exact HB.out)⟩⟩
    · replace c7 := Bool.eq_false_iff.mpr c7
      subst c7
      have H1 : (if a2 > 1125899906842624 then (merkhetlaw12_RpcMoved.j0 k l0 a2 true a1_0 a1_1) else (if a2 < (-1125899906842624) then (merkhetlaw12_RpcMoved.j0 k l0 a2 true a1_0 a1_1) else (merkhetlaw12_RpcMoved.j0 k l0 a2 (a1_0 == a1_1) a1_0 a1_1))) = some r := by rw [if_neg (show ¬ (false = true) by decide)] at H; exact H
      clear H
      have H := H1
      clear H1
      by_cases c9 : a2 > 1125899906842624
      · rw [if_pos c9] at H
        have c9b0 : decide (1125899906842624 < a2) = true := decide_eq_true c9
        clear c9
        (first | rw [c9b0] | (simp only [i64_w, i32_w]; rw [c9b0]) | skip)
        have H' := Aside0.mk H
        clear H
        go_wp2_with (first | ((with_reducible refine gate_callee (f := 30) rfl ?_); refine goesL_ (some 18) rfl rfl Try.func30 (by kernel_rfl) rfl #[.slice A0 l0.length c0] rfl (by (try simp only [List.map_toArray, List.map_cons, List.map_nil]); first | done | rfl | (simp only [List.length_drop, List.length_take]; rfl)) ?_; (with_reducible refine (merkhetlaw04_Great.calls k _ _ l0 false _ ?side1 ?side2 A6.out).mono ?_); (case side1 => repeat (first | exact (Kd.C_below HR0.out HB.out) | (with_reducible refine Kd.C_alloc ?_ _) | (with_reducible refine Kd.C_drewN ?_ _) | (with_reducible refine Kd.C_drew ?_))); (case side2 => exact HC0.out); rintro e w10 ⟨rfl, hb⟩; refine ⟨_, rfl, ?_⟩; have n0_ := Aside0.mk (blk_below (g := gb205) (o := .cells #[.int .i64 a1_0, .int .i64 a1_1] 46 (0, 0)) (by (with_reducible repeat (first | refine blk_drewN ?_ _ | refine blk_drew ?_ | refine blk_alloc ?_ _)); exact BK205.out) hb); have n1_ := Aside0.mk (below_step (by repeat (first | (with_reducible first | exact HB.out | apply below_alloc | apply pw_below_drewN | apply below_drew1 | refine below_set ?_ GE205.out) | exact HB.out)) hb); clear BK205; clear HB; have BK205 := n0_; have HB := n1_; clear n0_ n1_; (try clear hb); (try clear hb2); (try clear hk); (try clear hi)))
        go_meet
        case rel => exact ⟨_, (true), (by first | rfl | (simp; done) | (simp [*]; done)), H', ⟨by first | omega | exact Nat.le_refl _⟩, ⟨by (with_reducible repeat (first | refine blk_drewN ?_ _ | refine blk_drew ?_ | refine blk_alloc ?_ _)); exact BK205.out⟩, ⟨by repeat (first | (with_reducible first | exact HB.out | apply below_alloc | apply pw_below_drewN | apply below_drew1 | refine below_set ?_ GE205.out) | exact HB.out)⟩⟩
      · rw [if_neg c9] at H
        have c9b0 : decide (1125899906842624 < a2) = false := decide_eq_false c9
        clear c9
        (first | rw [c9b0] | (simp only [i64_w, i32_w]; rw [c9b0]) | skip)
        by_cases c11 : a2 < (-1125899906842624)
        · rw [if_pos c11] at H
          have c11b0 : decide (a2 < (-1125899906842624)) = true := decide_eq_true c11
          clear c11
          have H' := Aside0.mk H
          clear H
          go_wp2_with (first | ((with_reducible refine gate_callee (f := 30) rfl ?_); refine goesL_ (some 18) rfl rfl Try.func30 (by kernel_rfl) rfl #[.slice A0 l0.length c0] rfl (by (try simp only [List.map_toArray, List.map_cons, List.map_nil]); first | done | rfl | (simp only [List.length_drop, List.length_take]; rfl)) ?_; (with_reducible refine (merkhetlaw04_Great.calls k _ _ l0 false _ ?side1 ?side2 A6.out).mono ?_); (case side1 => repeat (first | exact (Kd.C_below HR0.out HB.out) | (with_reducible refine Kd.C_alloc ?_ _) | (with_reducible refine Kd.C_drewN ?_ _) | (with_reducible refine Kd.C_drew ?_))); (case side2 => exact HC0.out); rintro e w12 ⟨rfl, hb⟩; refine ⟨_, rfl, ?_⟩; have n0_ := Aside0.mk (blk_below (g := gb205) (o := .cells #[.int .i64 a1_0, .int .i64 a1_1] 46 (0, 0)) (by (with_reducible repeat (first | refine blk_drewN ?_ _ | refine blk_drew ?_ | refine blk_alloc ?_ _)); exact BK205.out) hb); have n1_ := Aside0.mk (below_step (by repeat (first | (with_reducible first | exact HB.out | apply below_alloc | apply pw_below_drewN | apply below_drew1 | refine below_set ?_ GE205.out) | exact HB.out)) hb); clear BK205; clear HB; have BK205 := n0_; have HB := n1_; clear n0_ n1_; (try clear hb); (try clear hb2); (try clear hk); (try clear hi)))
          go_meet
          case rel => exact ⟨_, (true), (by first | rfl | (simp; done) | (simp [*]; done)), H', ⟨by first | omega | exact Nat.le_refl _⟩, ⟨by (with_reducible repeat (first | refine blk_drewN ?_ _ | refine blk_drew ?_ | refine blk_alloc ?_ _)); exact BK205.out⟩, ⟨by repeat (first | (with_reducible first | exact HB.out | apply below_alloc | apply pw_below_drewN | apply below_drew1 | refine below_set ?_ GE205.out) | exact HB.out)⟩⟩
        · rw [if_neg c11] at H
          have c11b0 : decide (a2 < (-1125899906842624)) = false := decide_eq_false c11
          clear c11
          have H' := Aside0.mk H
          clear H
          go_wp2_with (first | ((with_reducible refine gate_callee (f := 30) rfl ?_); refine goesL_ (some 18) rfl rfl Try.func30 (by kernel_rfl) rfl #[.slice A0 l0.length c0] rfl (by (try simp only [List.map_toArray, List.map_cons, List.map_nil]); first | done | rfl | (simp only [List.length_drop, List.length_take]; rfl)) ?_; (with_reducible refine (merkhetlaw04_Great.calls k _ _ l0 false _ ?side1 ?side2 A6.out).mono ?_); (case side1 => repeat (first | exact (Kd.C_below HR0.out HB.out) | (with_reducible refine Kd.C_alloc ?_ _) | (with_reducible refine Kd.C_drewN ?_ _) | (with_reducible refine Kd.C_drew ?_))); (case side2 => exact HC0.out); rintro e w13 ⟨rfl, hb⟩; refine ⟨_, rfl, ?_⟩; have n0_ := Aside0.mk (blk_below (g := gb205) (o := .cells #[.int .i64 a1_0, .int .i64 a1_1] 46 (0, 0)) (by (with_reducible repeat (first | refine blk_drewN ?_ _ | refine blk_drew ?_ | refine blk_alloc ?_ _)); exact BK205.out) hb); have n1_ := Aside0.mk (below_step (by repeat (first | (with_reducible first | exact HB.out | apply below_alloc | apply pw_below_drewN | apply below_drew1 | refine below_set ?_ GE205.out) | exact HB.out)) hb); clear BK205; clear HB; have BK205 := n0_; have HB := n1_; clear n0_ n1_; (try clear hb); (try clear hb2); (try clear hk); (try clear hi); have hcz14_0 : w13.cell? ⟨gb205, 0, none⟩ = some (.int .i64 a1_0) := (blk_cell BK205.out 0).trans rfl; have hcz14_1 : w13.cell? ⟨gb205, 1, none⟩ = some (.int .i64 a1_1) := (blk_cell BK205.out 1).trans rfl; have hfz14_0 := blk_frozen BK205.out 0; have hfz14_1 := blk_frozen BK205.out 1))
          go_meet
          case rel => exact ⟨_, ((a1_0 == a1_1)), (by first | rfl | (simp; done) | (simp [*]; done)), H', ⟨by first | omega | exact Nat.le_refl _⟩, ⟨by (with_reducible repeat (first | refine blk_drewN ?_ _ | refine blk_drew ?_ | refine blk_alloc ?_ _)); exact BK205.out⟩, ⟨by repeat (first | (with_reducible first | exact HB.out | apply below_alloc | apply pw_below_drewN | apply below_drew1 | refine below_set ?_ GE205.out) | exact HB.out)⟩⟩
  case rest =>
    clear HC4
    try clear c1
    try clear p2
    try clear c3
    try clear c7
    try clear c9
    try clear c9b0
    try clear c11
    try clear c11b0
    try clear hcz14_0
    try clear hcz14_1
    try clear hfz14_0
    try clear hfz14_1
    obtain ⟨kq, x33_3, rfl, HA, HJ3, BK205, HB⟩ := hcut
    cases kq with
    | zero => exact absurd HA.out (by simp [merkhetlaw12_RpcMoved.j0])
    | succ kj3 =>
      have H := HA.out
      clear HA
      simp only [merkhetlaw12_RpcMoved.j0] at H
      by_cases c15 : x33_3 = true
      · subst c15
        have H1 : ((merkhetlaw12_fixed.f kj3).bind fun t207 => (some t207)) = some r := by rw [if_pos rfl] at H; exact H
        clear H
        have H := H1
        clear H1
        replace H := Option.bind_eq_some_iff.mp H
        obtain ⟨t207, A160, H⟩ := H
        replace H : (some t207) = some r := H
        have A16 := Aside0.mk A160
        clear A160
        obtain rfl := Option.some.inj H
        go_wp2_with (first | ((with_reducible refine gate_callee (f := 31) rfl ?_); refine goesL_ (some 34) rfl rfl Try.func31 (by kernel_rfl) rfl #[] rfl (by (try simp only [List.map_toArray, List.map_cons, List.map_nil]); first | done | rfl | (simp only [List.length_drop, List.length_take]; rfl)) ?_; (with_reducible refine (merkhetlaw12_fixed.calls kj3  t207 _ A16.out).mono ?_); rintro e w17 ⟨rfl, hb⟩; refine ⟨_, rfl, ?_⟩; have n0_ := Aside0.mk (blk_below (g := gb205) (o := .cells #[.int .i64 a1_0, .int .i64 a1_1] 46 (0, 0)) (by (with_reducible repeat (first | refine blk_drewN ?_ _ | refine blk_drew ?_ | refine blk_alloc ?_ _)); exact BK205.out) hb); have n1_ := Aside0.mk (below_step (by repeat (first | (with_reducible first | exact HB.out | apply below_alloc | apply pw_below_drewN | apply below_drew1 | refine below_set ?_ GE205.out) | exact HB.out)) hb); clear BK205; clear HB; have BK205 := n0_; have HB := n1_; clear n0_ n1_; (try clear hb); (try clear hb2); (try clear hk); (try clear hi)))
        go_ret
        exact ⟨by first | rfl | (simp [errW_none, errW_some] <;> rfl) | (simp [*, errW_none, errW_some] <;> rfl), by repeat (first | (with_reducible first | exact HB.out | apply below_alloc | apply pw_below_drewN | apply below_drew1 | refine below_set ?_ GE205.out) | exact HB.out)⟩
      · replace c15 := Bool.eq_false_iff.mpr c15
        subst c15
        have H1 : ((rpc_Gaps.f kj3 l0 a1_0 a1_1).bind fun bt208 => (if bt208.2.2 = true then (if a1_0 < 0 then (merkhetlaw12_RpcMoved.j1 kj3 l0 a2 bt208.1 bt208.2.1 bt208.2.2 true a1_0 a1_1) else (if a1_0 ≥ (l0.length : Int) then (merkhetlaw12_RpcMoved.j1 kj3 l0 a2 bt208.1 bt208.2.1 bt208.2.2 true a1_0 a1_1) else (if a1_1 < 0 then (merkhetlaw12_RpcMoved.j1 kj3 l0 a2 bt208.1 bt208.2.1 bt208.2.2 true a1_0 a1_1) else (merkhetlaw12_RpcMoved.j1 kj3 l0 a2 bt208.1 bt208.2.1 bt208.2.2 (decide (a1_1 ≥ (l0.length : Int))) a1_0 a1_1)))) else (merkhetlaw12_RpcMoved.j1 kj3 l0 a2 bt208.1 bt208.2.1 bt208.2.2 true a1_0 a1_1))) = some r := by rw [if_neg (show ¬ (false = true) by decide)] at H; exact H
        clear H
        have H := H1
        clear H1
        replace H := Option.bind_eq_some_iff.mp H
        obtain ⟨⟨t208, t209, t210⟩, A180, H⟩ := H
        replace H : (if t210 = true then (if a1_0 < 0 then (merkhetlaw12_RpcMoved.j1 kj3 l0 a2 t208 t209 t210 true a1_0 a1_1) else (if a1_0 ≥ (l0.length : Int) then (merkhetlaw12_RpcMoved.j1 kj3 l0 a2 t208 t209 t210 true a1_0 a1_1) else (if a1_1 < 0 then (merkhetlaw12_RpcMoved.j1 kj3 l0 a2 t208 t209 t210 true a1_0 a1_1) else (merkhetlaw12_RpcMoved.j1 kj3 l0 a2 t208 t209 t210 (decide (a1_1 ≥ (l0.length : Int))) a1_0 a1_1)))) else (merkhetlaw12_RpcMoved.j1 kj3 l0 a2 t208 t209 t210 true a1_0 a1_1)) = some r := H
        have A18 := Aside0.mk A180
        clear A180
        have HC19 := Aside0.mk H
        clear H
        have hcz20_0 : wc.cell? ⟨gb205, 0, none⟩ = some (.int .i64 a1_0) := (blk_cell BK205.out 0).trans rfl
        have hcz20_1 : wc.cell? ⟨gb205, 1, none⟩ = some (.int .i64 a1_1) := (blk_cell BK205.out 1).trans rfl
        have hfz20_0 := blk_frozen BK205.out 0
        have hfz20_1 := blk_frozen BK205.out 1
        go_upto_region 4 with (first | ((with_reducible refine gate_callee (f := 35) rfl ?_); refine goesL_ (some 38) rfl rfl Try.func35 (by kernel_rfl) rfl #[.slice A0 l0.length c0, .agg #[.int .i64 a1_0, .int .i64 a1_1]] rfl (by (try simp only [List.map_toArray, List.map_cons, List.map_nil]); first | done | rfl | (simp only [List.length_drop, List.length_take]; rfl)) ?_; (with_reducible refine (rpc_Gaps.calls kj3 _ _ l0 a1_0 a1_1 t208 t209 t210 _ ?side1 ?side2 A18.out).mono ?_); (case side1 => repeat (first | exact (Kd.C_below HR0.out HB.out) | (with_reducible refine Kd.C_alloc ?_ _) | (with_reducible refine Kd.C_drewN ?_ _) | (with_reducible refine Kd.C_drew ?_))); (case side2 => exact HC0.out); rintro e w21 ⟨rfl, hb⟩; refine ⟨_, rfl, ?_⟩; have n0_ := Aside0.mk (blk_below (g := gb205) (o := .cells #[.int .i64 a1_0, .int .i64 a1_1] 46 (0, 0)) (by (with_reducible repeat (first | refine blk_drewN ?_ _ | refine blk_drew ?_ | refine blk_alloc ?_ _)); exact BK205.out) hb); have n1_ := Aside0.mk (below_step (by repeat (first | (with_reducible first | exact HB.out | apply below_alloc | apply pw_below_drewN | apply below_drew1 | refine below_set ?_ GE205.out) | exact HB.out)) hb); clear BK205; clear HB; have BK205 := n0_; have HB := n1_; clear n0_ n1_; (try clear hb); (try clear hb2); (try clear hk); (try clear hi)))
        (try simp only [Act.put, List.setIfInBounds_toArray, List.set_cons_zero, List.set_cons_succ])
        go_cut [67] (fun v67 wc => ∃ (kq : Nat) (x67_18 : Bool), v67 = .bool x67_18 ∧ Aside0 (merkhetlaw12_RpcMoved.j1 kq l0 a2 t208 t209 t210 x67_18 a1_0 a1_1 = some r) ∧ Aside0 (kq ≤ kj3) ∧ Aside0 (wc.heap[gb205]? = some (.cells #[.int .i64 a1_0, .int .i64 a1_1] 46 (0, 0))) ∧ Aside0 (Below w.heap.size w wc))
        case first =>
          have H := HC19.out
          clear HC19
          by_cases c22 : t210 = true
          · subst c22
            have H1 : (if a1_0 < 0 then (merkhetlaw12_RpcMoved.j1 kj3 l0 a2 t208 t209 true true a1_0 a1_1) else (if a1_0 ≥ (l0.length : Int) then (merkhetlaw12_RpcMoved.j1 kj3 l0 a2 t208 t209 true true a1_0 a1_1) else (if a1_1 < 0 then (merkhetlaw12_RpcMoved.j1 kj3 l0 a2 t208 t209 true true a1_0 a1_1) else (merkhetlaw12_RpcMoved.j1 kj3 l0 a2 t208 t209 true (decide (a1_1 ≥ (l0.length : Int))) a1_0 a1_1)))) = some r := by rw [if_pos rfl] at H; exact H
            clear H
            have H := H1
            clear H1
            by_cases c23 : a1_0 < 0
            · rw [if_pos c23] at H
              have c23b0 : decide (a1_0 < 0) = true := decide_eq_true c23
              clear c23
              (first | rw [c23b0] | (simp only [i64_w, i32_w]; rw [c23b0]) | skip)
              have H' := Aside0.mk H
              clear H
              have hcz24_0 : w21.cell? ⟨gb205, 0, none⟩ = some (.int .i64 a1_0) := (blk_cell BK205.out 0).trans rfl
              have hcz24_1 : w21.cell? ⟨gb205, 1, none⟩ = some (.int .i64 a1_1) := (blk_cell BK205.out 1).trans rfl
              have hfz24_0 := blk_frozen BK205.out 0
              have hfz24_1 := blk_frozen BK205.out 1
              go_wp2
              go_meet
              case rel => exact ⟨_, (true), (by first | rfl | (simp; done) | (simp [*]; done)), H', ⟨by have := HJ3.out; first | omega | exact Nat.le_refl _⟩, ⟨by (with_reducible repeat (first | refine blk_drewN ?_ _ | refine blk_drew ?_ | refine blk_alloc ?_ _)); exact BK205.out⟩, ⟨by repeat (first | (with_reducible first | exact HB.out | apply below_alloc | apply pw_below_drewN | apply below_drew1 | refine below_set ?_ GE205.out) | exact HB.out)⟩⟩
            · rw [if_neg c23] at H
              have c23b0 : decide (a1_0 < 0) = false := decide_eq_false c23
              clear c23
              (first | rw [c23b0] | (simp only [i64_w, i32_w]; rw [c23b0]) | skip)
              by_cases c25 : a1_0 ≥ (l0.length : Int)
              · rw [if_pos c25] at H
                have c25b0 : decide ((l0.length : Int) ≤ a1_0) = true := decide_eq_true c25
                clear c25
                have H' := Aside0.mk H
                clear H
                have hcz26_0 : w21.cell? ⟨gb205, 0, none⟩ = some (.int .i64 a1_0) := (blk_cell BK205.out 0).trans rfl
                have hcz26_1 : w21.cell? ⟨gb205, 1, none⟩ = some (.int .i64 a1_1) := (blk_cell BK205.out 1).trans rfl
                have hfz26_0 := blk_frozen BK205.out 0
                have hfz26_1 := blk_frozen BK205.out 1
                go_wp2
                go_meet
                case rel => exact ⟨_, (true), (by first | rfl | (simp; done) | (simp [*]; done)), H', ⟨by have := HJ3.out; first | omega | exact Nat.le_refl _⟩, ⟨by (with_reducible repeat (first | refine blk_drewN ?_ _ | refine blk_drew ?_ | refine blk_alloc ?_ _)); exact BK205.out⟩, ⟨by repeat (first | (with_reducible first | exact HB.out | apply below_alloc | apply pw_below_drewN | apply below_drew1 | refine below_set ?_ GE205.out) | exact HB.out)⟩⟩
              · rw [if_neg c25] at H
                have c25b0 : decide ((l0.length : Int) ≤ a1_0) = false := decide_eq_false c25
                clear c25
                by_cases c27 : a1_1 < 0
                · rw [if_pos c27] at H
                  have c27b0 : decide (a1_1 < 0) = true := decide_eq_true c27
                  clear c27
                  have H' := Aside0.mk H
                  clear H
                  have hcz28_0 : w21.cell? ⟨gb205, 0, none⟩ = some (.int .i64 a1_0) := (blk_cell BK205.out 0).trans rfl
                  have hcz28_1 : w21.cell? ⟨gb205, 1, none⟩ = some (.int .i64 a1_1) := (blk_cell BK205.out 1).trans rfl
                  have hfz28_0 := blk_frozen BK205.out 0
                  have hfz28_1 := blk_frozen BK205.out 1
                  go_wp2
                  go_meet
                  case rel => exact ⟨_, (true), (by first | rfl | (simp; done) | (simp [*]; done)), H', ⟨by have := HJ3.out; first | omega | exact Nat.le_refl _⟩, ⟨by (with_reducible repeat (first | refine blk_drewN ?_ _ | refine blk_drew ?_ | refine blk_alloc ?_ _)); exact BK205.out⟩, ⟨by repeat (first | (with_reducible first | exact HB.out | apply below_alloc | apply pw_below_drewN | apply below_drew1 | refine below_set ?_ GE205.out) | exact HB.out)⟩⟩
                · rw [if_neg c27] at H
                  have c27b0 : decide (a1_1 < 0) = false := decide_eq_false c27
                  clear c27
                  have H' := Aside0.mk H
                  clear H
                  have hcz29_0 : w21.cell? ⟨gb205, 0, none⟩ = some (.int .i64 a1_0) := (blk_cell BK205.out 0).trans rfl
                  have hcz29_1 : w21.cell? ⟨gb205, 1, none⟩ = some (.int .i64 a1_1) := (blk_cell BK205.out 1).trans rfl
                  have hfz29_0 := blk_frozen BK205.out 0
                  have hfz29_1 := blk_frozen BK205.out 1
                  go_wp2
                  go_meet
                  case rel => exact ⟨_, (decide (a1_1 ≥ (l0.length : Int))), (by first | rfl | (simp; done) | (simp [*]; done)), H', ⟨by have := HJ3.out; first | omega | exact Nat.le_refl _⟩, ⟨by (with_reducible repeat (first | refine blk_drewN ?_ _ | refine blk_drew ?_ | refine blk_alloc ?_ _)); exact BK205.out⟩, ⟨by repeat (first | (with_reducible first | exact HB.out | apply below_alloc | apply pw_below_drewN | apply below_drew1 | refine below_set ?_ GE205.out) | exact HB.out)⟩⟩
          · replace c22 := Bool.eq_false_iff.mpr c22
            subst c22
            have H1 : (merkhetlaw12_RpcMoved.j1 kj3 l0 a2 t208 t209 false true a1_0 a1_1) = some r := by rw [if_neg (show ¬ (false = true) by decide)] at H; exact H
            clear H
            have H := H1
            clear H1
            have H' := Aside0.mk H
            clear H
            go_wp2
            go_meet
            case rel => exact ⟨_, (true), (by first | rfl | (simp; done) | (simp [*]; done)), H', ⟨by have := HJ3.out; first | omega | exact Nat.le_refl _⟩, ⟨by (with_reducible repeat (first | refine blk_drewN ?_ _ | refine blk_drew ?_ | refine blk_alloc ?_ _)); exact BK205.out⟩, ⟨by repeat (first | (with_reducible first | exact HB.out | apply below_alloc | apply pw_below_drewN | apply below_drew1 | refine below_set ?_ GE205.out) | exact HB.out)⟩⟩
        case rest =>
          clear HC19
          try clear c1
          try clear c2
          try clear p2
          try clear c3
          try clear c7
          try clear c9
          try clear c9b0
          try clear c11
          try clear c11b0
          try clear c15
          try clear c22
          try clear c23
          try clear c23b0
          try clear c25
          try clear c25b0
          try clear c27
          try clear c27b0
          try clear hcz14_0
          try clear hcz14_1
          try clear hcz20_0
          try clear hcz20_1
          try clear hcz24_0
          try clear hcz24_1
          try clear hcz26_0
          try clear hcz26_1
          try clear hcz28_0
          try clear hcz28_1
          try clear hcz29_0
          try clear hcz29_1
          try clear hfz14_0
          try clear hfz14_1
          try clear hfz20_0
          try clear hfz20_1
          try clear hfz24_0
          try clear hfz24_1
          try clear hfz26_0
          try clear hfz26_1
          try clear hfz28_0
          try clear hfz28_1
          try clear hfz29_0
          try clear hfz29_1
          try clear p2
          obtain ⟨kq, x67_18, rfl, HA, HJ18, BK205, HB⟩ := hcut
          cases kq with
          | zero => exact absurd HA.out (by simp [merkhetlaw12_RpcMoved.j1])
          | succ kj18 =>
            have H := HA.out
            clear HA
            simp only [merkhetlaw12_RpcMoved.j1] at H
            by_cases c30 : x67_18 = true
            · subst c30
              have H1 : ((merkhetlaw12_fixed.f kj18).bind fun t211 => (if t211 = true then (some (!t210)) else (some false))) = some r := by rw [if_pos rfl] at H; exact H
              clear H
              have H := H1
              clear H1
              replace H := Option.bind_eq_some_iff.mp H
              obtain ⟨t211, A310, H⟩ := H
              replace H : (if t211 = true then (some (!t210)) else (some false)) = some r := H
              have A31 := Aside0.mk A310
              clear A310
              by_cases c32 : t211 = true
              · subst c32
                have H1 : (some (!t210)) = some r := by rw [if_pos rfl] at H; exact H
                clear H
                have H := H1
                clear H1
                obtain rfl := Option.some.inj H
                go_wp2_with (first | ((with_reducible refine gate_callee (f := 31) rfl ?_); refine goesL_ (some 68) rfl rfl Try.func31 (by kernel_rfl) rfl #[] rfl (by (try simp only [List.map_toArray, List.map_cons, List.map_nil]); first | done | rfl | (simp only [List.length_drop, List.length_take]; rfl)) ?_; (with_reducible refine (merkhetlaw12_fixed.calls kj18  true _ A31.out).mono ?_); rintro e w33 ⟨rfl, hb⟩; refine ⟨_, rfl, ?_⟩; have n0_ := Aside0.mk (blk_below (g := gb205) (o := .cells #[.int .i64 a1_0, .int .i64 a1_1] 46 (0, 0)) (by (with_reducible repeat (first | refine blk_drewN ?_ _ | refine blk_drew ?_ | refine blk_alloc ?_ _)); exact BK205.out) hb); have n1_ := Aside0.mk (below_step (by repeat (first | (with_reducible first | exact HB.out | apply below_alloc | apply pw_below_drewN | apply below_drew1 | refine below_set ?_ GE205.out) | exact HB.out)) hb); clear BK205; clear HB; have BK205 := n0_; have HB := n1_; clear n0_ n1_; (try clear hb); (try clear hb2); (try clear hk); (try clear hi)))
                go_ret
                exact ⟨by first | rfl | (simp [errW_none, errW_some] <;> rfl) | (simp [*, errW_none, errW_some] <;> rfl), by repeat (first | (with_reducible first | exact HB.out | apply below_alloc | apply pw_below_drewN | apply below_drew1 | refine below_set ?_ GE205.out) | exact HB.out)⟩
              · replace c32 := Bool.eq_false_iff.mpr c32
                subst c32
                have H1 : (some false) = some r := by rw [if_neg (show ¬ (false = true) by decide)] at H; exact H
                clear H
                have H := H1
                clear H1
                obtain rfl := Option.some.inj H
                go_wp2_with (first | ((with_reducible refine gate_callee (f := 31) rfl ?_); refine goesL_ (some 68) rfl rfl Try.func31 (by kernel_rfl) rfl #[] rfl (by (try simp only [List.map_toArray, List.map_cons, List.map_nil]); first | done | rfl | (simp only [List.length_drop, List.length_take]; rfl)) ?_; (with_reducible refine (merkhetlaw12_fixed.calls kj18  false _ A31.out).mono ?_); rintro e w34 ⟨rfl, hb⟩; refine ⟨_, rfl, ?_⟩; have n0_ := Aside0.mk (blk_below (g := gb205) (o := .cells #[.int .i64 a1_0, .int .i64 a1_1] 46 (0, 0)) (by (with_reducible repeat (first | refine blk_drewN ?_ _ | refine blk_drew ?_ | refine blk_alloc ?_ _)); exact BK205.out) hb); have n1_ := Aside0.mk (below_step (by repeat (first | (with_reducible first | exact HB.out | apply below_alloc | apply pw_below_drewN | apply below_drew1 | refine below_set ?_ GE205.out) | exact HB.out)) hb); clear BK205; clear HB; have BK205 := n0_; have HB := n1_; clear n0_ n1_; (try clear hb); (try clear hb2); (try clear hk); (try clear hi)))
                go_ret
                exact ⟨by first | rfl | (simp [errW_none, errW_some] <;> rfl) | (simp [*, errW_none, errW_some] <;> rfl), by repeat (first | (with_reducible first | exact HB.out | apply below_alloc | apply pw_below_drewN | apply below_drew1 | refine below_set ?_ GE205.out) | exact HB.out)⟩
            · replace c30 := Bool.eq_false_iff.mpr c30
              subst c30
              have H1 : ((some (([] : List (S37)) : List (S37))).bind fun y212 => (if y212.length + l0.length < 1759218604441 then ((some (y212 ++ l0 : List (S37))).bind fun y215 => (if 0 ≤ a1_1 then (if a1_1 < (y215.length : Int) then ((some (y215.set (a1_1 : Int).toNat (⟨(rd_T37 y215 a1_1).f0, (rd_T37 y215 a1_1).f1, (rd_T37 y215 a1_1).f2, (rd_T37 y215 a1_1).f3, (rd_T37 y215 a1_1).f4, (rd_T37 y215 a1_1).f5, wrap64 (((rd_T37 y215 a1_1).f6) + a2), (rd_T37 y215 a1_1).f7⟩ : S37) : List (S37))).bind fun y219 => ((rpc_Gaps.f kj18 y219 a1_0 a1_1).bind fun bt220 => (if bt220.2.2 = true then (if bt220.1 = (wrap64 (t208 + a2)) then (merkhetlaw12_RpcMoved.j2 kj18 a2 t208 t209 y219 (bt220.2.1 != (wrap64 (t209 - a2))) a1_0 a1_1) else (merkhetlaw12_RpcMoved.j2 kj18 a2 t208 t209 y219 true a1_0 a1_1)) else (merkhetlaw12_RpcMoved.j2 kj18 a2 t208 t209 y219 false a1_0 a1_1)))) else (none)) else (none))) else (none))) = some r := by rw [if_neg (show ¬ (false = true) by decide)] at H; exact H
              clear H
              have H := H1
              clear H1
              obtain ⟨y212, hy212⟩ : ∃ y_ : List (S37), y_ = (([] : List (S37))) := ⟨_, rfl⟩
              replace H : (if y212.length + l0.length < 1759218604441 then ((some (y212 ++ l0 : List (S37))).bind fun y215 => (if 0 ≤ a1_1 then (if a1_1 < (y215.length : Int) then ((some (y215.set (a1_1 : Int).toNat (⟨(rd_T37 y215 a1_1).f0, (rd_T37 y215 a1_1).f1, (rd_T37 y215 a1_1).f2, (rd_T37 y215 a1_1).f3, (rd_T37 y215 a1_1).f4, (rd_T37 y215 a1_1).f5, wrap64 (((rd_T37 y215 a1_1).f6) + a2), (rd_T37 y215 a1_1).f7⟩ : S37) : List (S37))).bind fun y219 => ((rpc_Gaps.f kj18 y219 a1_0 a1_1).bind fun bt220 => (if bt220.2.2 = true then (if bt220.1 = (wrap64 (t208 + a2)) then (merkhetlaw12_RpcMoved.j2 kj18 a2 t208 t209 y219 (bt220.2.1 != (wrap64 (t209 - a2))) a1_0 a1_1) else (merkhetlaw12_RpcMoved.j2 kj18 a2 t208 t209 y219 true a1_0 a1_1)) else (merkhetlaw12_RpcMoved.j2 kj18 a2 t208 t209 y219 false a1_0 a1_1)))) else (none)) else (none))) else (none)) = some r := by first | (rw [hy212]; with_reducible exact H) | (have H2_ := (Option.bind_some _ _).symm.trans H; rw [hy212]; with_reducible exact H2_) | (have H2_ := (Option.bind_some _ _).symm.trans H; with_reducible exact H2_) | with_reducible exact H | (rw [hy212]; exact H) | exact H
              have Ny212 := Aside0.mk hy212
              clear hy212
              by_cases c35 : y212.length + l0.length < 1759218604441
              · rw [if_pos c35] at H
                have LMc35 := Aside0.mk c35
                clear c35
                obtain ⟨y215, hy215⟩ : ∃ y_ : List (S37), y_ = (y212 ++ l0) := ⟨_, rfl⟩
                replace H : (if 0 ≤ a1_1 then (if a1_1 < (y215.length : Int) then ((some (y215.set (a1_1 : Int).toNat (⟨(rd_T37 y215 a1_1).f0, (rd_T37 y215 a1_1).f1, (rd_T37 y215 a1_1).f2, (rd_T37 y215 a1_1).f3, (rd_T37 y215 a1_1).f4, (rd_T37 y215 a1_1).f5, wrap64 (((rd_T37 y215 a1_1).f6) + a2), (rd_T37 y215 a1_1).f7⟩ : S37) : List (S37))).bind fun y219 => ((rpc_Gaps.f kj18 y219 a1_0 a1_1).bind fun bt220 => (if bt220.2.2 = true then (if bt220.1 = (wrap64 (t208 + a2)) then (merkhetlaw12_RpcMoved.j2 kj18 a2 t208 t209 y219 (bt220.2.1 != (wrap64 (t209 - a2))) a1_0 a1_1) else (merkhetlaw12_RpcMoved.j2 kj18 a2 t208 t209 y219 true a1_0 a1_1)) else (merkhetlaw12_RpcMoved.j2 kj18 a2 t208 t209 y219 false a1_0 a1_1)))) else (none)) else (none)) = some r := by first | (rw [hy215]; with_reducible exact H) | (have H2_ := (Option.bind_some _ _).symm.trans H; rw [hy215]; with_reducible exact H2_) | (have H2_ := (Option.bind_some _ _).symm.trans H; with_reducible exact H2_) | with_reducible exact H | (rw [hy215]; exact H) | exact H
                have Ny215 := Aside0.mk hy215
                clear hy215
                by_cases c36 : 0 ≤ a1_1
                · rw [if_pos c36] at H
                  have c36b0 : decide (0 ≤ a1_1) = true := decide_eq_true c36
                  clear c36
                  by_cases c37 : a1_1 < (y215.length : Int)
                  · rw [if_pos c37] at H
                    have c37b0 : decide (a1_1 < (y215.length : Int)) = true := decide_eq_true c37
                    clear c37
                    obtain ⟨y219, hy219⟩ : ∃ y_ : List (S37), y_ = (y215.set (a1_1 : Int).toNat (⟨(rd_T37 y215 a1_1).f0, (rd_T37 y215 a1_1).f1, (rd_T37 y215 a1_1).f2, (rd_T37 y215 a1_1).f3, (rd_T37 y215 a1_1).f4, (rd_T37 y215 a1_1).f5, wrap64 (((rd_T37 y215 a1_1).f6) + a2), (rd_T37 y215 a1_1).f7⟩ : S37)) := ⟨_, rfl⟩
                    replace H : ((rpc_Gaps.f kj18 y219 a1_0 a1_1).bind fun bt220 => (if bt220.2.2 = true then (if bt220.1 = (wrap64 (t208 + a2)) then (merkhetlaw12_RpcMoved.j2 kj18 a2 t208 t209 y219 (bt220.2.1 != (wrap64 (t209 - a2))) a1_0 a1_1) else (merkhetlaw12_RpcMoved.j2 kj18 a2 t208 t209 y219 true a1_0 a1_1)) else (merkhetlaw12_RpcMoved.j2 kj18 a2 t208 t209 y219 false a1_0 a1_1))) = some r := by first | (rw [hy219]; with_reducible exact H) | (have H2_ := (Option.bind_some _ _).symm.trans H; rw [hy219]; with_reducible exact H2_) | (have H2_ := (Option.bind_some _ _).symm.trans H; with_reducible exact H2_) | with_reducible exact H | (rw [hy219]; exact H) | exact H
                    have Ny219 := Aside0.mk hy219
                    clear hy219
                    replace H := Option.bind_eq_some_iff.mp H
                    obtain ⟨⟨t220, t221, t222⟩, A390, H⟩ := H
                    replace H : (if t222 = true then (if t220 = (wrap64 (t208 + a2)) then (merkhetlaw12_RpcMoved.j2 kj18 a2 t208 t209 y219 (t221 != (wrap64 (t209 - a2))) a1_0 a1_1) else (merkhetlaw12_RpcMoved.j2 kj18 a2 t208 t209 y219 true a1_0 a1_1)) else (merkhetlaw12_RpcMoved.j2 kj18 a2 t208 t209 y219 false a1_0 a1_1)) = some r := H
                    have A39 := Aside0.mk A390
                    clear A390
                    have HC40 := Aside0.mk H
                    clear H
                    go_upto_region 9 with (first | ((with_reducible refine gate_dst (N := 73) rfl ?_); (try (refine gate_guard (by rfl) ?_; dsimp only)); refine Kd.R_lit k37 _ 37 ?hg (N := 73) ?hd (xs := ([] : List (S37))) (inner := []) (ok := fun _ => True) (okp := fun _ => True) ?hr ?hp (fun _ hk => hk) trivial (Below.refl _ _) (Nat.le_refl _) (by simp) ?_; (case hd => rfl); (case hg => rfl); (case hr => first | (go_simp; done) | (go_simp; rfl)); (case hp => exact (Reps.none _ _)); intro v213 w41 ho42 hb hg_ hnew_; clear hg_ hnew_; (first | rw [← Ny212.out] at ho42 | (simp only [Int.reduceToNat] at ho42; rw [← Ny212.out] at ho42)); have n0_ := Aside0.mk (Kd.R_lower ho42 (below_size (by repeat (first | (with_reducible first | exact HB.out | apply below_alloc | apply pw_below_drewN | apply below_drew1 | refine below_set ?_ GE205.out) | exact HB.out)))); have n1_ := Aside0.mk (blk_below (g := gb205) (o := .cells #[.int .i64 a1_0, .int .i64 a1_1] 46 (0, 0)) (by (with_reducible repeat (first | refine blk_drewN ?_ _ | refine blk_drew ?_ | refine blk_alloc ?_ _)); exact BK205.out) hb); have n2_ := Aside0.mk (below_step (by repeat (first | (with_reducible first | exact HB.out | apply below_alloc | apply pw_below_drewN | apply below_drew1 | refine below_set ?_ GE205.out) | exact HB.out)) hb); clear BK205; clear HB; have HO214 := n0_; have BK205 := n1_; have HB := n2_; clear n0_ n1_ n2_; clear hb ho42) | ((with_reducible refine gate_builtin (b := .append) (xs := #[.tmp 73, .tmp 74]) rfl ?_); (try (refine gate_guard (by rfl) ?_; dsimp only)); at_builtin; refine Kd.R_append_rows k37 (w0 := w) w.heap.size rfl (.tmp 73) (.tmp 74) 22 37 (.agg #[(.int .u64 0), (.int .u64 0), (.int .u64 0), (.int .u8 0), (.string ⟨#[]⟩), (.string ⟨#[]⟩), (.int .i64 0), (.int .i64 0)]) 80 rfl Try.underlying22 info37 rfl (by decide) (by omega) v213 y212 l0 _ _ _ (fun _ => True) (fun _ => False) rfl rfl ?aO ?aR (fun _ _ h => h) (fun _ h => h.elim) ?aF ?aB ?aS ?aL ?_; (case aR => repeat (first | exact (Kd.C_below HR0.out HB.out) | (with_reducible refine Kd.C_alloc ?_ _) | (with_reducible refine Kd.C_drewN ?_ _) | (with_reducible refine Kd.C_drew ?_))); (case aB => exact (by repeat (first | (with_reducible first | exact HB.out | apply below_alloc | apply pw_below_drewN | apply below_drew1 | refine below_set ?_ GE205.out) | exact HB.out))); (case aF => exact (fun _ _ => trivial)); (case aO => exact (by (with_reducible repeat (first | apply Kd.R_alloc | apply Kd.R_drewN | apply Kd.R_drew)); exact HO214.out)); (case aS => exact (below_size (by repeat (first | (with_reducible first | exact HB.out | apply below_alloc | apply pw_below_drewN | apply below_drew1 | refine below_set ?_ GE205.out) | exact HB.out)))); (case aL => have := LMc35.out; omega); intro v216 w43 ho hb hg hat; rw [← Ny215.out] at ho; have n0_ := Aside0.mk (blk_grown (g := gb205) (o := .cells #[.int .i64 a1_0, .int .i64 a1_1] 46 (0, 0)) (by (with_reducible repeat (first | refine blk_drewN ?_ _ | refine blk_drew ?_ | refine blk_alloc ?_ _)); exact BK205.out) hg (Kd.R_ne HO214.out BK205.out (by decide))); have n1_ := Aside0.mk (hb); have n2_ := Aside0.mk (ho); clear BK205; clear HB; clear HO214; have BK205 := n0_; have HB := n1_; have HO217 := n2_; clear n0_ n1_ n2_; clear ho hb hg hat; have hcz44_0 : w43.cell? ⟨gb205, 0, none⟩ = some (.int .i64 a1_0) := (blk_cell BK205.out 0).trans rfl; have hcz44_1 : w43.cell? ⟨gb205, 1, none⟩ = some (.int .i64 a1_1) := (blk_cell BK205.out 1).trans rfl; have hfz44_0 := blk_frozen BK205.out 0; have hfz44_1 := blk_frozen BK205.out 1; obtain ⟨Ao45, co45, eo45⟩ := Kd.R_slice HO217.out; subst eo45; have p218 : 0 ≤ (a1_1 : Int) := of_decide_eq_true (by first | (with_reducible assumption) | assumption); have q218 : a1_1 < (y215.length : Int) := of_decide_eq_true (by first | (with_reducible assumption) | assumption); obtain ⟨ad218, e218, hx218_0, hx218_1, hx218_2, hx218_3, hx218_4, hx218_5, hx218_6, hx218_7⟩ := at_T37 (Kd.R_reads' HO217.out).2.2 a1_1 p218 q218; cases e218; replace p218 := eq_true p218; replace q218 := eq_true q218; have p38 : 0 ≤ (a1_1 : Int) := of_decide_eq_true (by first | (with_reducible assumption) | assumption); have q38 : (a1_1 : Int) < ((y215.length : Int) : Int) := of_decide_eq_true (by first | (with_reducible assumption) | assumption); obtain ⟨go38, co38, eo38, gb38, gl38, cl38, HG38⟩ := Kd.R_form HO217.out (by omega); (first | cases eo38 | (injection eo38 with ea_ en_ ec_; (first | subst ea_ | (injection ea_ with ea_; subst ea_)); subst ec_; clear en_)); have GB38 := Aside0.mk gb38; have GG38 := Aside0.mk HG38; clear gb38 gl38 HG38; (first | simp only [add_plain] at hx218_0 | skip); (first | simp only [add_plain] at hx218_1 | skip); (first | simp only [add_plain] at hx218_2 | skip); (first | simp only [add_plain] at hx218_3 | skip); (first | simp only [add_plain] at hx218_4 | skip); (first | simp only [add_plain] at hx218_5 | skip); (first | simp only [add_plain] at hx218_6 | skip); (first | simp only [add_plain] at hx218_7 | skip); obtain ⟨ce38, hcl38, hM38, hcc38, hfr38⟩ := Kd.R_elem HO217.out z37 (a1_1 : Int) p38 q38; obtain rfl := k37_openM hM38; have hx38_0 : w43.cell? ⟨go38, (a1_1 : Int).toNat * 8, none⟩ = some (.int .u64 ((rd_T37 y215 a1_1).f0)) := hcc38 0 _ rfl; have hx38_1 : w43.cell? ⟨go38, (a1_1 : Int).toNat * 8 + 1, none⟩ = some (.int .u64 ((rd_T37 y215 a1_1).f1)) := hcc38 1 _ rfl; have hx38_2 : w43.cell? ⟨go38, (a1_1 : Int).toNat * 8 + 2, none⟩ = some (.int .u64 ((rd_T37 y215 a1_1).f2)) := hcc38 2 _ rfl; have hx38_3 : w43.cell? ⟨go38, (a1_1 : Int).toNat * 8 + 3, none⟩ = some (.int .u8 ((rd_T37 y215 a1_1).f3)) := hcc38 3 _ rfl; have hx38_4 : w43.cell? ⟨go38, (a1_1 : Int).toNat * 8 + 4, none⟩ = some (.string ((rd_T37 y215 a1_1).f4)) := hcc38 4 _ rfl; have hx38_5 : w43.cell? ⟨go38, (a1_1 : Int).toNat * 8 + 5, none⟩ = some (.string ((rd_T37 y215 a1_1).f5)) := hcc38 5 _ rfl; have hx38_6 : w43.cell? ⟨go38, (a1_1 : Int).toNat * 8 + 6, none⟩ = some (.int .i64 ((rd_T37 y215 a1_1).f6)) := hcc38 6 _ rfl; have hx38_7 : w43.cell? ⟨go38, (a1_1 : Int).toNat * 8 + 7, none⟩ = some (.int .i64 ((rd_T37 y215 a1_1).f7)) := hcc38 7 _ rfl; have hf38_0 : w43.frozen? ⟨go38, (a1_1 : Int).toNat * 8, none⟩ = false := hfr38 0; have hf38_1 : w43.frozen? ⟨go38, (a1_1 : Int).toNat * 8 + 1, none⟩ = false := hfr38 1; have hf38_2 : w43.frozen? ⟨go38, (a1_1 : Int).toNat * 8 + 2, none⟩ = false := hfr38 2; have hf38_3 : w43.frozen? ⟨go38, (a1_1 : Int).toNat * 8 + 3, none⟩ = false := hfr38 3; have hf38_4 : w43.frozen? ⟨go38, (a1_1 : Int).toNat * 8 + 4, none⟩ = false := hfr38 4; have hf38_5 : w43.frozen? ⟨go38, (a1_1 : Int).toNat * 8 + 5, none⟩ = false := hfr38 5; have hf38_6 : w43.frozen? ⟨go38, (a1_1 : Int).toNat * 8 + 6, none⟩ = false := hfr38 6; have hf38_7 : w43.frozen? ⟨go38, (a1_1 : Int).toNat * 8 + 7, none⟩ = false := hfr38 7; clear hcl38 hcc38 hfr38 hM38; replace p38 := eq_true p38; replace q38 := eq_true q38; have HX46 := Aside0.mk (show Kd.R k37 37 w43 w.heap.size (fun _ => True) (.slice (some ⟨go38, 0, none⟩) y215.length co45) y215 from (by (with_reducible repeat (first | apply Kd.R_alloc | apply Kd.R_drewN | apply Kd.R_drew)); exact HO217.out)); obtain ⟨ce46, hcl46, hM46, hcc46, hfr46⟩ := Kd.R_elem HX46.out z37 (a1_1 : Int) (of_decide_eq_true (by first | (with_reducible assumption) | assumption)) (by have h_ : (a1_1 : Int) < ((y215.length : Int) : Int) := of_decide_eq_true (by first | (with_reducible assumption) | assumption); first | exact h_ | (have e_ := (Kd.R_reads' HO217.out).1; omega) | simpa using h_); obtain rfl := k37_openM hM46; have HP46 := Kd.R_seg HX46.out (a1_1 : Int) (of_decide_eq_true (by first | (with_reducible assumption) | assumption)) (by have h_ : (a1_1 : Int) < ((y215.length : Int) : Int) := of_decide_eq_true (by first | (with_reducible assumption) | assumption); first | exact h_ | (have e_ := (Kd.R_reads' HO217.out).1; omega) | simpa using h_) (seg := [.int .i64 (wrap64 (((rd_T37 y215 a1_1).f6) + a2))]) (j := 6) hcl46 hcc46 (show 7 ≤ 8 from by decide) (x' := (⟨(rd_T37 y215 a1_1).f0, (rd_T37 y215 a1_1).f1, (rd_T37 y215 a1_1).f2, (rd_T37 y215 a1_1).f3, (rd_T37 y215 a1_1).f4, (rd_T37 y215 a1_1).f5, wrap64 (((rd_T37 y215 a1_1).f6) + a2), (rd_T37 y215 a1_1).f7⟩ : S37)) (k37_mkM _ _ _ (⟨(rd_T37 y215 a1_1).f0, (rd_T37 y215 a1_1).f1, (rd_T37 y215 a1_1).f2, (rd_T37 y215 a1_1).f3, (rd_T37 y215 a1_1).f4, (rd_T37 y215 a1_1).f5, wrap64 (((rd_T37 y215 a1_1).f6) + a2), (rd_T37 y215 a1_1).f7⟩ : S37) ) (fun _ hk => hk); have hx46_6 := hcc46 6 _ rfl; (try simp only [show (k37).sz = 8 from rfl, Nat.mul_one, Nat.add_zero] at hx46_6); have hf46_6 := hfr46 6; (try simp only [show (k37).sz = 8 from rfl, Nat.mul_one, Nat.add_zero] at hf46_6); clear hcl46 hcc46 hfr46 hM46) | ((with_reducible refine gate_store (t := 2) (p := 85) rfl ?_); refine store_event (t := 2) (p := 85) (v := ?vo_w47) (w1 := (w43.setCell ⟨go38, (a1_1 : Int).toNat * 8 + 6, none⟩ (.int .i64 (wrap64 (((rd_T37 y215 a1_1).f6) + a2))))) ?hg ?ho ?hn ?hr ?_; (case ho => rfl); (case hg => rfl); (case hn => rfl); (case hr => first | (go_simp; done) | (go_simp; rfl)); intro w47 hw; have hg : w43.grownBy w47 (some go38) := (by rw [hw]; exact HP46.2); have hp_ : Kd.R k37 37 w47 w.heap.size (fun _ => True) (.slice (some ⟨go38, 0, none⟩) y215.length co45) y219 := (by rw [hw, Ny219.out]; exact HP46.1); clear HP46; have n0_ := Aside0.mk (blk_grown (g := gb205) (o := .cells #[.int .i64 a1_0, .int .i64 a1_1] 46 (0, 0)) (by (with_reducible repeat (first | refine blk_drewN ?_ _ | refine blk_drew ?_ | refine blk_alloc ?_ _)); exact BK205.out) hg (Kd.R_ne HO217.out BK205.out (by decide))); have n1_ := Aside0.mk (hp_); have n2_ := Aside0.mk ((by rw [hw]; exact below_set (HB.out) GB38.out : Below w.heap.size w w47)); clear BK205; clear HO217; clear HB; have BK205 := n0_; have HO217 := n1_; have HB := n2_; clear n0_ n1_ n2_; clear hg hw hp_; have hcz48_0 : w47.cell? ⟨gb205, 0, none⟩ = some (.int .i64 a1_0) := (blk_cell BK205.out 0).trans rfl; have hcz48_1 : w47.cell? ⟨gb205, 1, none⟩ = some (.int .i64 a1_1) := (blk_cell BK205.out 1).trans rfl; have hfz48_0 := blk_frozen BK205.out 0; have hfz48_1 := blk_frozen BK205.out 1) | ((with_reducible refine gate_callee (f := 35) rfl ?_); refine goesL_ (some 89) rfl rfl Try.func35 (by kernel_rfl) rfl #[.slice (some ⟨go38, 0, none⟩) y219.length co45, .agg #[.int .i64 a1_0, .int .i64 a1_1]] rfl (by (try simp only [List.map_toArray, List.map_cons, List.map_nil]); first | done | (rw [show y219.length = y215.length from (Kd.R_reads' HO217.out).1.symm] <;> rfl) | rfl | (simp only [List.length_drop, List.length_take]; rfl)) ?_; (with_reducible refine (rpc_Gaps.calls kj18 _ _ y219 a1_0 a1_1 t220 t221 t222 _ ?side1 ?side2 A39.out).mono ?_); (case side1 => repeat (first | exact (Kd.R_reads' HO217.out).2.2 | (with_reducible refine Kd.C_alloc ?_ _) | (with_reducible refine Kd.C_drewN ?_ _) | (with_reducible refine Kd.C_drew ?_))); (case side2 => rw [show y219.length = y215.length from (Kd.R_reads' HO217.out).1.symm]; exact (Kd.R_reads' HO217.out).2.1); rintro e w49 ⟨rfl, hb⟩; refine ⟨_, rfl, ?_⟩; have n0_ := Aside0.mk (Kd.R_below (by (with_reducible repeat (first | apply Kd.R_alloc | apply Kd.R_drewN | apply Kd.R_drew)); exact HO217.out) hb); have n1_ := Aside0.mk (blk_below (g := gb205) (o := .cells #[.int .i64 a1_0, .int .i64 a1_1] 46 (0, 0)) (by (with_reducible repeat (first | refine blk_drewN ?_ _ | refine blk_drew ?_ | refine blk_alloc ?_ _)); exact BK205.out) hb); have n2_ := Aside0.mk (below_step (by repeat (first | (with_reducible first | exact HB.out | apply below_alloc | apply pw_below_drewN | apply below_drew1 | refine below_set ?_ GE205.out) | exact HB.out)) hb); clear HO217; clear BK205; clear HB; have HO217 := n0_; have BK205 := n1_; have HB := n2_; clear n0_ n1_ n2_; (try clear hb); (try clear hb2); (try clear hk); (try clear hi)))
                    (try simp only [Act.put, List.setIfInBounds_toArray, List.set_cons_zero, List.set_cons_succ])
                    go_cut [107] (fun v107 wc => ∃ (kq : Nat) (x107_39 : Bool), v107 = .bool x107_39 ∧ Aside0 (merkhetlaw12_RpcMoved.j2 kq a2 t208 t209 y219 x107_39 a1_0 a1_1 = some r) ∧ Aside0 (kq ≤ kj18) ∧ Aside0 (Kd.R k37 37 wc w.heap.size (fun _ => True) (.slice (some ⟨go38, 0, none⟩) y215.length co45) y219) ∧ Aside0 (wc.heap[gb205]? = some (.cells #[.int .i64 a1_0, .int .i64 a1_1] 46 (0, 0))) ∧ Aside0 (Below w.heap.size w wc))
                    case first =>
                      have H := HC40.out
                      clear HC40
                      by_cases c50 : t222 = true
                      · subst c50
                        have H1 : (if t220 = (wrap64 (t208 + a2)) then (merkhetlaw12_RpcMoved.j2 kj18 a2 t208 t209 y219 (t221 != (wrap64 (t209 - a2))) a1_0 a1_1) else (merkhetlaw12_RpcMoved.j2 kj18 a2 t208 t209 y219 true a1_0 a1_1)) = some r := by rw [if_pos rfl] at H; exact H
                        clear H
                        have H := H1
                        clear H1
                        by_cases c51 : t220 = (wrap64 (t208 + a2))
                        · rw [if_pos c51] at H
                          have c51b0 : (t220 == (wrap64 (t208 + a2))) = true := beq_iff_eq.mpr c51
                          have c51b1 : (t220 != (wrap64 (t208 + a2))) = false := bne_eq_false_iff_eq.mpr c51
                          clear c51
                          (first | rw [c51b0] | (simp only [i64_w, i32_w]; rw [c51b0]) | skip)
                          have H' := Aside0.mk H
                          clear H
                          go_wp2
                          go_meet
                          case rel => exact ⟨_, ((t221 != (wrap64 (t209 - a2)))), (by first | rfl | (simp; done) | (simp [*]; done)), H', ⟨by have := HJ3.out; have := HJ18.out; first | omega | exact Nat.le_refl _⟩, ⟨by (with_reducible repeat (first | apply Kd.R_alloc | apply Kd.R_drewN | apply Kd.R_drew)); exact HO217.out⟩, ⟨by (with_reducible repeat (first | refine blk_drewN ?_ _ | refine blk_drew ?_ | refine blk_alloc ?_ _)); exact BK205.out⟩, ⟨by repeat (first | (with_reducible first | exact HB.out | apply below_alloc | apply pw_below_drewN | apply below_drew1 | refine below_set ?_ GE205.out) | exact HB.out)⟩⟩
                        · rw [if_neg c51] at H
                          have c51b0 : (t220 == (wrap64 (t208 + a2))) = false := beq_eq_false_iff_ne.mpr c51
                          have c51b1 : (t220 != (wrap64 (t208 + a2))) = true := bne_iff_ne.mpr c51
                          (first | rw [c51b0] | (simp only [i64_w, i32_w]; rw [c51b0]) | skip)
                          have H' := Aside0.mk H
                          clear H
                          go_wp2
                          go_meet
                          case rel => exact ⟨_, (true), (by first | rfl | (simp; done) | (simp [*]; done)), H', ⟨by have := HJ3.out; have := HJ18.out; first | omega | exact Nat.le_refl _⟩, ⟨by (with_reducible repeat (first | apply Kd.R_alloc | apply Kd.R_drewN | apply Kd.R_drew)); exact HO217.out⟩, ⟨by (with_reducible repeat (first | refine blk_drewN ?_ _ | refine blk_drew ?_ | refine blk_alloc ?_ _)); exact BK205.out⟩, ⟨by repeat (first | (with_reducible first | exact HB.out | apply below_alloc | apply pw_below_drewN | apply below_drew1 | refine below_set ?_ GE205.out) | exact HB.out)⟩⟩
                      · replace c50 := Bool.eq_false_iff.mpr c50
                        subst c50
                        have H1 : (merkhetlaw12_RpcMoved.j2 kj18 a2 t208 t209 y219 false a1_0 a1_1) = some r := by rw [if_neg (show ¬ (false = true) by decide)] at H; exact H
                        clear H
                        have H := H1
                        clear H1
                        have H' := Aside0.mk H
                        clear H
                        go_wp2
                        go_meet
                        case rel => exact ⟨_, (false), (by first | rfl | (simp; done) | (simp [*]; done)), H', ⟨by have := HJ3.out; have := HJ18.out; first | omega | exact Nat.le_refl _⟩, ⟨by (with_reducible repeat (first | apply Kd.R_alloc | apply Kd.R_drewN | apply Kd.R_drew)); exact HO217.out⟩, ⟨by (with_reducible repeat (first | refine blk_drewN ?_ _ | refine blk_drew ?_ | refine blk_alloc ?_ _)); exact BK205.out⟩, ⟨by repeat (first | (with_reducible first | exact HB.out | apply below_alloc | apply pw_below_drewN | apply below_drew1 | refine below_set ?_ GE205.out) | exact HB.out)⟩⟩
                    case rest =>
                      clear HC40
                      try clear c1
                      try clear c2
                      try clear p2
                      try clear q2
                      try clear hx2
                      try clear c3
                      try clear p3
                      try clear q3
                      try clear hx3
                      try clear hf3
                      try clear c4
                      try clear hx4
                      try clear hf4
                      try clear c5
                      try clear p6
                      try clear c7
                      try clear c9
                      try clear c9b0
                      try clear c11
                      try clear c11b0
                      try clear c15
                      try clear p21
                      try clear q21
                      try clear hx21
                      try clear c22
                      try clear c23
                      try clear c23b0
                      try clear c25
                      try clear c25b0
                      try clear c27
                      try clear c27b0
                      try clear c30
                      try clear c31
                      try clear c32
                      try clear c35
                      try clear c36
                      try clear c36b0
                      try clear c37
                      try clear c37b0
                      try clear c38
                      try clear p38
                      try clear q38
                      try clear hx38
                      try clear hf38
                      try clear c46
                      try clear hx46
                      try clear hf46
                      try clear c50
                      try clear c51
                      try clear c51b0
                      try clear c51b1
                      try clear hcz14_0
                      try clear hcz14_1
                      try clear hcz20_0
                      try clear hcz20_1
                      try clear hcz24_0
                      try clear hcz24_1
                      try clear hcz26_0
                      try clear hcz26_1
                      try clear hcz28_0
                      try clear hcz28_1
                      try clear hcz29_0
                      try clear hcz29_1
                      try clear hcz44_0
                      try clear hcz44_1
                      try clear hcz48_0
                      try clear hcz48_1
                      try clear hfz14_0
                      try clear hfz14_1
                      try clear hfz20_0
                      try clear hfz20_1
                      try clear hfz24_0
                      try clear hfz24_1
                      try clear hfz26_0
                      try clear hfz26_1
                      try clear hfz28_0
                      try clear hfz28_1
                      try clear hfz29_0
                      try clear hfz29_1
                      try clear hfz44_0
                      try clear hfz44_1
                      try clear hfz48_0
                      try clear hfz48_1
                      try clear hx218_0
                      try clear hx218_1
                      try clear hx218_2
                      try clear hx218_3
                      try clear hx218_4
                      try clear hx218_5
                      try clear hx218_6
                      try clear hx218_7
                      try clear hx38_0
                      try clear hx38_1
                      try clear hx38_2
                      try clear hx38_3
                      try clear hx38_4
                      try clear hx38_5
                      try clear hx38_6
                      try clear hx38_7
                      try clear hx46_6
                      try clear p2
                      try clear p218
                      try clear p38
                      try clear q218
                      try clear q38
                      obtain ⟨kq, x107_39, rfl, HA, HJ39, HO_10, BK205, HB⟩ := hcut
                      have hl10_39 := (Kd.R_reads' HO_10.out).1
                      rw [hl10_39] at HO_10
                      (try simp only [hl10_39])
                      (try simp only [hl10_39] at BK205)
                      cases kq with
                      | zero => exact absurd HA.out (by simp [merkhetlaw12_RpcMoved.j2])
                      | succ kj39 =>
                        have H := HA.out
                        clear HA
                        simp only [merkhetlaw12_RpcMoved.j2] at H
                        by_cases c52 : x107_39 = true
                        · subst c52
                          have H1 : (some false) = some r := by rw [if_pos rfl] at H; exact H
                          clear H
                          have H := H1
                          clear H1
                          obtain rfl := Option.some.inj H
                          go_wp2
                          go_ret
                          exact ⟨by first | rfl | (simp [errW_none, errW_some] <;> rfl) | (simp [*, errW_none, errW_some] <;> rfl), by repeat (first | (with_reducible first | exact HB.out | apply below_alloc | apply pw_below_drewN | apply below_drew1 | refine below_set ?_ GE205.out) | exact HB.out)⟩
                        · replace c52 := Bool.eq_false_iff.mpr c52
                          subst c52
                          have H1 : (if 0 ≤ a1_0 then (if a1_0 < (y219.length : Int) then ((rpc_Gaps.f kj39 (y219.set (a1_0 : Int).toNat (⟨(rd_T37 y219 a1_0).f0, (rd_T37 y219 a1_0).f1, (rd_T37 y219 a1_0).f2, (rd_T37 y219 a1_0).f3, (rd_T37 y219 a1_0).f4, (rd_T37 y219 a1_0).f5, wrap64 (((rd_T37 y219 a1_0).f6) + a2), (rd_T37 y219 a1_0).f7⟩ : S37)) a1_0 a1_1).bind fun bt225 => ((merkhetlaw12_fixed.f kj39).bind fun t228 => (if t228 = true then (if bt225.2.2 = true then (if bt225.1 = t208 then (some (bt225.2.1 == t209)) else (some false)) else (some true)) else (some false)))) else (none)) else (none)) = some r := by rw [if_neg (show ¬ (false = true) by decide)] at H; exact H
                          clear H
                          have H := H1
                          clear H1
                          by_cases c53 : 0 ≤ a1_0
                          · rw [if_pos c53] at H
                            have c53b0 : decide (0 ≤ a1_0) = true := decide_eq_true c53
                            clear c53
                            by_cases c54 : a1_0 < (y219.length : Int)
                            · rw [if_pos c54] at H
                              have c54b0 : decide (a1_0 < (y219.length : Int)) = true := decide_eq_true c54
                              clear c54
                              obtain ⟨y224, hy224⟩ : ∃ y_ : List (S37), y_ = (y219.set (a1_0 : Int).toNat (⟨(rd_T37 y219 a1_0).f0, (rd_T37 y219 a1_0).f1, (rd_T37 y219 a1_0).f2, (rd_T37 y219 a1_0).f3, (rd_T37 y219 a1_0).f4, (rd_T37 y219 a1_0).f5, wrap64 (((rd_T37 y219 a1_0).f6) + a2), (rd_T37 y219 a1_0).f7⟩ : S37)) := ⟨_, rfl⟩
                              replace H : ((rpc_Gaps.f kj39 y224 a1_0 a1_1).bind fun bt225 => ((merkhetlaw12_fixed.f kj39).bind fun t228 => (if t228 = true then (if bt225.2.2 = true then (if bt225.1 = t208 then (some (bt225.2.1 == t209)) else (some false)) else (some true)) else (some false)))) = some r := by first | (rw [hy224]; with_reducible exact H) | (have H2_ := (Option.bind_some _ _).symm.trans H; rw [hy224]; with_reducible exact H2_) | (have H2_ := (Option.bind_some _ _).symm.trans H; with_reducible exact H2_) | with_reducible exact H | (rw [hy224]; exact H) | exact H
                              have Ny224 := Aside0.mk hy224
                              clear hy224
                              replace H := Option.bind_eq_some_iff.mp H
                              obtain ⟨⟨t225, t226, t227⟩, A560, H⟩ := H
                              replace H : ((merkhetlaw12_fixed.f kj39).bind fun t228 => (if t228 = true then (if t227 = true then (if t225 = t208 then (some (t226 == t209)) else (some false)) else (some true)) else (some false))) = some r := H
                              have A56 := Aside0.mk A560
                              clear A560
                              replace H := Option.bind_eq_some_iff.mp H
                              obtain ⟨t228, A570, H⟩ := H
                              replace H : (if t228 = true then (if t227 = true then (if t225 = t208 then (some (t226 == t209)) else (some false)) else (some true)) else (some false)) = some r := H
                              have A57 := Aside0.mk A570
                              clear A570
                              by_cases c58 : t228 = true
                              · subst c58
                                have H1 : (if t227 = true then (if t225 = t208 then (some (t226 == t209)) else (some false)) else (some true)) = some r := by rw [if_pos rfl] at H; exact H
                                clear H
                                have H := H1
                                clear H1
                                by_cases c59 : t227 = true
                                · subst c59
                                  have H1 : (if t225 = t208 then (some (t226 == t209)) else (some false)) = some r := by rw [if_pos rfl] at H; exact H
                                  clear H
                                  have H := H1
                                  clear H1
                                  by_cases c60 : t225 = t208
                                  · rw [if_pos c60] at H
                                    have c60b0 : (t225 == t208) = true := beq_iff_eq.mpr c60
                                    have c60b1 : (t225 != t208) = false := bne_eq_false_iff_eq.mpr c60
                                    clear c60
                                    obtain rfl := Option.some.inj H
                                    have hcz61_0 : wc.cell? ⟨gb205, 0, none⟩ = some (.int .i64 a1_0) := (blk_cell BK205.out 0).trans rfl
                                    have hcz61_1 : wc.cell? ⟨gb205, 1, none⟩ = some (.int .i64 a1_1) := (blk_cell BK205.out 1).trans rfl
                                    have hfz61_0 := blk_frozen BK205.out 0
                                    have hfz61_1 := blk_frozen BK205.out 1
                                    have p223 : 0 ≤ (a1_0 : Int) := of_decide_eq_true (by first | (with_reducible assumption) | assumption)
                                    have q223 : a1_0 < (y219.length : Int) := of_decide_eq_true (by first | (with_reducible assumption) | assumption)
                                    obtain ⟨ad223, e223, hx223_0, hx223_1, hx223_2, hx223_3, hx223_4, hx223_5, hx223_6, hx223_7⟩ := at_T37 (Kd.R_reads' HO_10.out).2.2 a1_0 p223 q223
                                    obtain rfl : (⟨go38, 0, none⟩ : Addr) = ad223 := (by injection e223)
                                    (first | simp only [add_plain] at hx223_0 | simp only [add_at] at hx223_0 | simp only [Addr.add, Nat.zero_add] at hx223_0 | skip)
                                    (first | simp only [add_plain] at hx223_1 | simp only [add_at] at hx223_1 | simp only [Addr.add, Nat.zero_add] at hx223_1 | skip)
                                    (first | simp only [add_plain] at hx223_2 | simp only [add_at] at hx223_2 | simp only [Addr.add, Nat.zero_add] at hx223_2 | skip)
                                    (first | simp only [add_plain] at hx223_3 | simp only [add_at] at hx223_3 | simp only [Addr.add, Nat.zero_add] at hx223_3 | skip)
                                    (first | simp only [add_plain] at hx223_4 | simp only [add_at] at hx223_4 | simp only [Addr.add, Nat.zero_add] at hx223_4 | skip)
                                    (first | simp only [add_plain] at hx223_5 | simp only [add_at] at hx223_5 | simp only [Addr.add, Nat.zero_add] at hx223_5 | skip)
                                    (first | simp only [add_plain] at hx223_6 | simp only [add_at] at hx223_6 | simp only [Addr.add, Nat.zero_add] at hx223_6 | skip)
                                    (first | simp only [add_plain] at hx223_7 | simp only [add_at] at hx223_7 | simp only [Addr.add, Nat.zero_add] at hx223_7 | skip)
                                    replace p223 := eq_true p223
                                    replace q223 := eq_true q223
                                    have p55 : 0 ≤ (a1_0 : Int) := of_decide_eq_true (by first | (with_reducible assumption) | assumption)
                                    have q55 : (a1_0 : Int) < ((y219.length : Int) : Int) := of_decide_eq_true (by first | (with_reducible assumption) | assumption)
                                    obtain ⟨ce55, hcl55, hM55, hcc55, hfr55⟩ := Kd.R_elem HO_10.out z37 (a1_0 : Int) p55 q55
                                    obtain rfl := k37_openM hM55
                                    have hx55_0 : wc.cell? ⟨go38, (a1_0 : Int).toNat * 8, none⟩ = some (.int .u64 ((rd_T37 y219 a1_0).f0)) := hcc55 0 _ rfl
                                    have hx55_1 : wc.cell? ⟨go38, (a1_0 : Int).toNat * 8 + 1, none⟩ = some (.int .u64 ((rd_T37 y219 a1_0).f1)) := hcc55 1 _ rfl
                                    have hx55_2 : wc.cell? ⟨go38, (a1_0 : Int).toNat * 8 + 2, none⟩ = some (.int .u64 ((rd_T37 y219 a1_0).f2)) := hcc55 2 _ rfl
                                    have hx55_3 : wc.cell? ⟨go38, (a1_0 : Int).toNat * 8 + 3, none⟩ = some (.int .u8 ((rd_T37 y219 a1_0).f3)) := hcc55 3 _ rfl
                                    have hx55_4 : wc.cell? ⟨go38, (a1_0 : Int).toNat * 8 + 4, none⟩ = some (.string ((rd_T37 y219 a1_0).f4)) := hcc55 4 _ rfl
                                    have hx55_5 : wc.cell? ⟨go38, (a1_0 : Int).toNat * 8 + 5, none⟩ = some (.string ((rd_T37 y219 a1_0).f5)) := hcc55 5 _ rfl
                                    have hx55_6 : wc.cell? ⟨go38, (a1_0 : Int).toNat * 8 + 6, none⟩ = some (.int .i64 ((rd_T37 y219 a1_0).f6)) := hcc55 6 _ rfl
                                    have hx55_7 : wc.cell? ⟨go38, (a1_0 : Int).toNat * 8 + 7, none⟩ = some (.int .i64 ((rd_T37 y219 a1_0).f7)) := hcc55 7 _ rfl
                                    have hf55_0 : wc.frozen? ⟨go38, (a1_0 : Int).toNat * 8, none⟩ = false := hfr55 0
                                    have hf55_1 : wc.frozen? ⟨go38, (a1_0 : Int).toNat * 8 + 1, none⟩ = false := hfr55 1
                                    have hf55_2 : wc.frozen? ⟨go38, (a1_0 : Int).toNat * 8 + 2, none⟩ = false := hfr55 2
                                    have hf55_3 : wc.frozen? ⟨go38, (a1_0 : Int).toNat * 8 + 3, none⟩ = false := hfr55 3
                                    have hf55_4 : wc.frozen? ⟨go38, (a1_0 : Int).toNat * 8 + 4, none⟩ = false := hfr55 4
                                    have hf55_5 : wc.frozen? ⟨go38, (a1_0 : Int).toNat * 8 + 5, none⟩ = false := hfr55 5
                                    have hf55_6 : wc.frozen? ⟨go38, (a1_0 : Int).toNat * 8 + 6, none⟩ = false := hfr55 6
                                    have hf55_7 : wc.frozen? ⟨go38, (a1_0 : Int).toNat * 8 + 7, none⟩ = false := hfr55 7
                                    clear hcl55 hcc55 hfr55 hM55
                                    replace p55 := eq_true p55
                                    replace q55 := eq_true q55
                                    have HX62 := Aside0.mk (show Kd.R k37 37 wc w.heap.size (fun _ => True) (.slice (some ⟨go38, 0, none⟩) y219.length co45) y219 from (by (with_reducible repeat (first | apply Kd.R_alloc | apply Kd.R_drewN | apply Kd.R_drew)); exact HO_10.out))
                                    obtain ⟨ce62, hcl62, hM62, hcc62, hfr62⟩ := Kd.R_elem HX62.out z37 (a1_0 : Int) (of_decide_eq_true (by first | (with_reducible assumption) | assumption)) (by have h_ : (a1_0 : Int) < ((y219.length : Int) : Int) := of_decide_eq_true (by first | (with_reducible assumption) | assumption); first | exact h_ | (have e_ := (Kd.R_reads' HO_10.out).1; omega) | simpa using h_)
                                    obtain rfl := k37_openM hM62
                                    have HP62 := Kd.R_seg HX62.out (a1_0 : Int) (of_decide_eq_true (by first | (with_reducible assumption) | assumption)) (by have h_ : (a1_0 : Int) < ((y219.length : Int) : Int) := of_decide_eq_true (by first | (with_reducible assumption) | assumption); first | exact h_ | (have e_ := (Kd.R_reads' HO_10.out).1; omega) | simpa using h_) (seg := [.int .i64 (wrap64 (((rd_T37 y219 a1_0).f6) + a2))]) (j := 6) hcl62 hcc62 (show 7 ≤ 8 from by decide) (x' := (⟨(rd_T37 y219 a1_0).f0, (rd_T37 y219 a1_0).f1, (rd_T37 y219 a1_0).f2, (rd_T37 y219 a1_0).f3, (rd_T37 y219 a1_0).f4, (rd_T37 y219 a1_0).f5, wrap64 (((rd_T37 y219 a1_0).f6) + a2), (rd_T37 y219 a1_0).f7⟩ : S37)) (k37_mkM _ _ _ (⟨(rd_T37 y219 a1_0).f0, (rd_T37 y219 a1_0).f1, (rd_T37 y219 a1_0).f2, (rd_T37 y219 a1_0).f3, (rd_T37 y219 a1_0).f4, (rd_T37 y219 a1_0).f5, wrap64 (((rd_T37 y219 a1_0).f6) + a2), (rd_T37 y219 a1_0).f7⟩ : S37) ) (fun _ hk => hk)
                                    have hx62_6 := hcc62 6 _ rfl
                                    (try simp only [show (k37).sz = 8 from rfl, Nat.mul_one, Nat.add_zero] at hx62_6)
                                    have hf62_6 := hfr62 6
                                    (try simp only [show (k37).sz = 8 from rfl, Nat.mul_one, Nat.add_zero] at hf62_6)
                                    clear hcl62 hcc62 hfr62 hM62
                                    go_wp2_with (first | ((with_reducible refine gate_store (t := 2) (p := 117) rfl ?_); refine store_event (t := 2) (p := 117) (v := ?vo_w63) (w1 := (wc.setCell ⟨go38, (a1_0 : Int).toNat * 8 + 6, none⟩ (.int .i64 (wrap64 (((rd_T37 y219 a1_0).f6) + a2))))) ?hg ?ho ?hn ?hr ?_; (case ho => rfl); (case hg => rfl); (case hn => rfl); (case hr => first | (go_simp; done) | (go_simp; rfl)); intro w63 hw; have hg : wc.grownBy w63 (some go38) := (by rw [hw]; exact HP62.2); have hp_ : Kd.R k37 37 w63 w.heap.size (fun _ => True) (.slice (some ⟨go38, 0, none⟩) y219.length co45) y224 := (by rw [hw, Ny224.out]; exact HP62.1); clear HP62; have n0_ := Aside0.mk (hp_); have n1_ := Aside0.mk (blk_grown (g := gb205) (o := .cells #[.int .i64 a1_0, .int .i64 a1_1] 46 (0, 0)) (by (with_reducible repeat (first | refine blk_drewN ?_ _ | refine blk_drew ?_ | refine blk_alloc ?_ _)); exact BK205.out) hg (Kd.R_ne HO_10.out BK205.out (by decide))); have n2_ := Aside0.mk ((by rw [hw]; exact below_set (HB.out) GB38.out : Below w.heap.size w w63)); clear HO_10; clear BK205; clear HB; have HO_10 := n0_; have BK205 := n1_; have HB := n2_; clear n0_ n1_ n2_; clear hg hw hp_; have hcz64_0 : w63.cell? ⟨gb205, 0, none⟩ = some (.int .i64 a1_0) := (blk_cell BK205.out 0).trans rfl; have hcz64_1 : w63.cell? ⟨gb205, 1, none⟩ = some (.int .i64 a1_1) := (blk_cell BK205.out 1).trans rfl; have hfz64_0 := blk_frozen BK205.out 0; have hfz64_1 := blk_frozen BK205.out 1) | ((with_reducible refine gate_callee (f := 35) rfl ?_); refine goesL_ (some 121) rfl rfl Try.func35 (by kernel_rfl) rfl #[.slice (some ⟨go38, 0, none⟩) y224.length co45, .agg #[.int .i64 a1_0, .int .i64 a1_1]] rfl (by (try simp only [List.map_toArray, List.map_cons, List.map_nil]); first | done | (rw [show y224.length = y219.length from (Kd.R_reads' HO_10.out).1.symm] <;> rfl) | rfl | (simp only [List.length_drop, List.length_take]; rfl)) ?_; (with_reducible refine (rpc_Gaps.calls kj39 _ _ y224 a1_0 a1_1 t225 t226 true _ ?side1 ?side2 A56.out).mono ?_); (case side1 => repeat (first | exact (Kd.R_reads' HO_10.out).2.2 | (with_reducible refine Kd.C_alloc ?_ _) | (with_reducible refine Kd.C_drewN ?_ _) | (with_reducible refine Kd.C_drew ?_))); (case side2 => rw [show y224.length = y219.length from (Kd.R_reads' HO_10.out).1.symm]; exact (Kd.R_reads' HO_10.out).2.1); rintro e w65 ⟨rfl, hb⟩; refine ⟨_, rfl, ?_⟩; have n0_ := Aside0.mk (Kd.R_below (by (with_reducible repeat (first | apply Kd.R_alloc | apply Kd.R_drewN | apply Kd.R_drew)); exact HO_10.out) hb); have n1_ := Aside0.mk (blk_below (g := gb205) (o := .cells #[.int .i64 a1_0, .int .i64 a1_1] 46 (0, 0)) (by (with_reducible repeat (first | refine blk_drewN ?_ _ | refine blk_drew ?_ | refine blk_alloc ?_ _)); exact BK205.out) hb); have n2_ := Aside0.mk (below_step (by repeat (first | (with_reducible first | exact HB.out | apply below_alloc | apply pw_below_drewN | apply below_drew1 | refine below_set ?_ GE205.out) | exact HB.out)) hb); clear HO_10; clear BK205; clear HB; have HO_10 := n0_; have BK205 := n1_; have HB := n2_; clear n0_ n1_ n2_; (try clear hb); (try clear hb2); (try clear hk); (try clear hi)) | ((with_reducible refine gate_callee (f := 31) rfl ?_); refine goesL_ (some 125) rfl rfl Try.func31 (by kernel_rfl) rfl #[] rfl (by (try simp only [List.map_toArray, List.map_cons, List.map_nil]); first | done | rfl | (simp only [List.length_drop, List.length_take]; rfl)) ?_; (with_reducible refine (merkhetlaw12_fixed.calls kj39  true _ A57.out).mono ?_); rintro e w66 ⟨rfl, hb⟩; refine ⟨_, rfl, ?_⟩; have n0_ := Aside0.mk (Kd.R_below (by (with_reducible repeat (first | apply Kd.R_alloc | apply Kd.R_drewN | apply Kd.R_drew)); exact HO_10.out) hb); have n1_ := Aside0.mk (blk_below (g := gb205) (o := .cells #[.int .i64 a1_0, .int .i64 a1_1] 46 (0, 0)) (by (with_reducible repeat (first | refine blk_drewN ?_ _ | refine blk_drew ?_ | refine blk_alloc ?_ _)); exact BK205.out) hb); have n2_ := Aside0.mk (below_step (by repeat (first | (with_reducible first | exact HB.out | apply below_alloc | apply pw_below_drewN | apply below_drew1 | refine below_set ?_ GE205.out) | exact HB.out)) hb); clear HO_10; clear BK205; clear HB; have HO_10 := n0_; have BK205 := n1_; have HB := n2_; clear n0_ n1_ n2_; (try clear hb); (try clear hb2); (try clear hk); (try clear hi)))
                                    go_ret
                                    exact ⟨by first | rfl | (simp [errW_none, errW_some] <;> rfl) | (simp [*, errW_none, errW_some] <;> rfl), by repeat (first | (with_reducible first | exact HB.out | apply below_alloc | apply pw_below_drewN | apply below_drew1 | refine below_set ?_ GE205.out) | exact HB.out)⟩
                                  · rw [if_neg c60] at H
                                    have c60b0 : (t225 == t208) = false := beq_eq_false_iff_ne.mpr c60
                                    have c60b1 : (t225 != t208) = true := bne_iff_ne.mpr c60
                                    obtain rfl := Option.some.inj H
                                    have hcz67_0 : wc.cell? ⟨gb205, 0, none⟩ = some (.int .i64 a1_0) := (blk_cell BK205.out 0).trans rfl
                                    have hcz67_1 : wc.cell? ⟨gb205, 1, none⟩ = some (.int .i64 a1_1) := (blk_cell BK205.out 1).trans rfl
                                    have hfz67_0 := blk_frozen BK205.out 0
                                    have hfz67_1 := blk_frozen BK205.out 1
                                    have p223 : 0 ≤ (a1_0 : Int) := of_decide_eq_true (by first | (with_reducible assumption) | assumption)
                                    have q223 : a1_0 < (y219.length : Int) := of_decide_eq_true (by first | (with_reducible assumption) | assumption)
                                    obtain ⟨ad223, e223, hx223_0, hx223_1, hx223_2, hx223_3, hx223_4, hx223_5, hx223_6, hx223_7⟩ := at_T37 (Kd.R_reads' HO_10.out).2.2 a1_0 p223 q223
                                    obtain rfl : (⟨go38, 0, none⟩ : Addr) = ad223 := (by injection e223)
                                    (first | simp only [add_plain] at hx223_0 | simp only [add_at] at hx223_0 | simp only [Addr.add, Nat.zero_add] at hx223_0 | skip)
                                    (first | simp only [add_plain] at hx223_1 | simp only [add_at] at hx223_1 | simp only [Addr.add, Nat.zero_add] at hx223_1 | skip)
                                    (first | simp only [add_plain] at hx223_2 | simp only [add_at] at hx223_2 | simp only [Addr.add, Nat.zero_add] at hx223_2 | skip)
                                    (first | simp only [add_plain] at hx223_3 | simp only [add_at] at hx223_3 | simp only [Addr.add, Nat.zero_add] at hx223_3 | skip)
                                    (first | simp only [add_plain] at hx223_4 | simp only [add_at] at hx223_4 | simp only [Addr.add, Nat.zero_add] at hx223_4 | skip)
                                    (first | simp only [add_plain] at hx223_5 | simp only [add_at] at hx223_5 | simp only [Addr.add, Nat.zero_add] at hx223_5 | skip)
                                    (first | simp only [add_plain] at hx223_6 | simp only [add_at] at hx223_6 | simp only [Addr.add, Nat.zero_add] at hx223_6 | skip)
                                    (first | simp only [add_plain] at hx223_7 | simp only [add_at] at hx223_7 | simp only [Addr.add, Nat.zero_add] at hx223_7 | skip)
                                    replace p223 := eq_true p223
                                    replace q223 := eq_true q223
                                    have p55 : 0 ≤ (a1_0 : Int) := of_decide_eq_true (by first | (with_reducible assumption) | assumption)
                                    have q55 : (a1_0 : Int) < ((y219.length : Int) : Int) := of_decide_eq_true (by first | (with_reducible assumption) | assumption)
                                    obtain ⟨ce55, hcl55, hM55, hcc55, hfr55⟩ := Kd.R_elem HO_10.out z37 (a1_0 : Int) p55 q55
                                    obtain rfl := k37_openM hM55
                                    have hx55_0 : wc.cell? ⟨go38, (a1_0 : Int).toNat * 8, none⟩ = some (.int .u64 ((rd_T37 y219 a1_0).f0)) := hcc55 0 _ rfl
                                    have hx55_1 : wc.cell? ⟨go38, (a1_0 : Int).toNat * 8 + 1, none⟩ = some (.int .u64 ((rd_T37 y219 a1_0).f1)) := hcc55 1 _ rfl
                                    have hx55_2 : wc.cell? ⟨go38, (a1_0 : Int).toNat * 8 + 2, none⟩ = some (.int .u64 ((rd_T37 y219 a1_0).f2)) := hcc55 2 _ rfl
                                    have hx55_3 : wc.cell? ⟨go38, (a1_0 : Int).toNat * 8 + 3, none⟩ = some (.int .u8 ((rd_T37 y219 a1_0).f3)) := hcc55 3 _ rfl
                                    have hx55_4 : wc.cell? ⟨go38, (a1_0 : Int).toNat * 8 + 4, none⟩ = some (.string ((rd_T37 y219 a1_0).f4)) := hcc55 4 _ rfl
                                    have hx55_5 : wc.cell? ⟨go38, (a1_0 : Int).toNat * 8 + 5, none⟩ = some (.string ((rd_T37 y219 a1_0).f5)) := hcc55 5 _ rfl
                                    have hx55_6 : wc.cell? ⟨go38, (a1_0 : Int).toNat * 8 + 6, none⟩ = some (.int .i64 ((rd_T37 y219 a1_0).f6)) := hcc55 6 _ rfl
                                    have hx55_7 : wc.cell? ⟨go38, (a1_0 : Int).toNat * 8 + 7, none⟩ = some (.int .i64 ((rd_T37 y219 a1_0).f7)) := hcc55 7 _ rfl
                                    have hf55_0 : wc.frozen? ⟨go38, (a1_0 : Int).toNat * 8, none⟩ = false := hfr55 0
                                    have hf55_1 : wc.frozen? ⟨go38, (a1_0 : Int).toNat * 8 + 1, none⟩ = false := hfr55 1
                                    have hf55_2 : wc.frozen? ⟨go38, (a1_0 : Int).toNat * 8 + 2, none⟩ = false := hfr55 2
                                    have hf55_3 : wc.frozen? ⟨go38, (a1_0 : Int).toNat * 8 + 3, none⟩ = false := hfr55 3
                                    have hf55_4 : wc.frozen? ⟨go38, (a1_0 : Int).toNat * 8 + 4, none⟩ = false := hfr55 4
                                    have hf55_5 : wc.frozen? ⟨go38, (a1_0 : Int).toNat * 8 + 5, none⟩ = false := hfr55 5
                                    have hf55_6 : wc.frozen? ⟨go38, (a1_0 : Int).toNat * 8 + 6, none⟩ = false := hfr55 6
                                    have hf55_7 : wc.frozen? ⟨go38, (a1_0 : Int).toNat * 8 + 7, none⟩ = false := hfr55 7
                                    clear hcl55 hcc55 hfr55 hM55
                                    replace p55 := eq_true p55
                                    replace q55 := eq_true q55
                                    have HX68 := Aside0.mk (show Kd.R k37 37 wc w.heap.size (fun _ => True) (.slice (some ⟨go38, 0, none⟩) y219.length co45) y219 from (by (with_reducible repeat (first | apply Kd.R_alloc | apply Kd.R_drewN | apply Kd.R_drew)); exact HO_10.out))
                                    obtain ⟨ce68, hcl68, hM68, hcc68, hfr68⟩ := Kd.R_elem HX68.out z37 (a1_0 : Int) (of_decide_eq_true (by first | (with_reducible assumption) | assumption)) (by have h_ : (a1_0 : Int) < ((y219.length : Int) : Int) := of_decide_eq_true (by first | (with_reducible assumption) | assumption); first | exact h_ | (have e_ := (Kd.R_reads' HO_10.out).1; omega) | simpa using h_)
                                    obtain rfl := k37_openM hM68
                                    have HP68 := Kd.R_seg HX68.out (a1_0 : Int) (of_decide_eq_true (by first | (with_reducible assumption) | assumption)) (by have h_ : (a1_0 : Int) < ((y219.length : Int) : Int) := of_decide_eq_true (by first | (with_reducible assumption) | assumption); first | exact h_ | (have e_ := (Kd.R_reads' HO_10.out).1; omega) | simpa using h_) (seg := [.int .i64 (wrap64 (((rd_T37 y219 a1_0).f6) + a2))]) (j := 6) hcl68 hcc68 (show 7 ≤ 8 from by decide) (x' := (⟨(rd_T37 y219 a1_0).f0, (rd_T37 y219 a1_0).f1, (rd_T37 y219 a1_0).f2, (rd_T37 y219 a1_0).f3, (rd_T37 y219 a1_0).f4, (rd_T37 y219 a1_0).f5, wrap64 (((rd_T37 y219 a1_0).f6) + a2), (rd_T37 y219 a1_0).f7⟩ : S37)) (k37_mkM _ _ _ (⟨(rd_T37 y219 a1_0).f0, (rd_T37 y219 a1_0).f1, (rd_T37 y219 a1_0).f2, (rd_T37 y219 a1_0).f3, (rd_T37 y219 a1_0).f4, (rd_T37 y219 a1_0).f5, wrap64 (((rd_T37 y219 a1_0).f6) + a2), (rd_T37 y219 a1_0).f7⟩ : S37) ) (fun _ hk => hk)
                                    have hx68_6 := hcc68 6 _ rfl
                                    (try simp only [show (k37).sz = 8 from rfl, Nat.mul_one, Nat.add_zero] at hx68_6)
                                    have hf68_6 := hfr68 6
                                    (try simp only [show (k37).sz = 8 from rfl, Nat.mul_one, Nat.add_zero] at hf68_6)
                                    clear hcl68 hcc68 hfr68 hM68
                                    go_wp2_with (first | ((with_reducible refine gate_store (t := 2) (p := 117) rfl ?_); refine store_event (t := 2) (p := 117) (v := ?vo_w69) (w1 := (wc.setCell ⟨go38, (a1_0 : Int).toNat * 8 + 6, none⟩ (.int .i64 (wrap64 (((rd_T37 y219 a1_0).f6) + a2))))) ?hg ?ho ?hn ?hr ?_; (case ho => rfl); (case hg => rfl); (case hn => rfl); (case hr => first | (go_simp; done) | (go_simp; rfl)); intro w69 hw; have hg : wc.grownBy w69 (some go38) := (by rw [hw]; exact HP68.2); have hp_ : Kd.R k37 37 w69 w.heap.size (fun _ => True) (.slice (some ⟨go38, 0, none⟩) y219.length co45) y224 := (by rw [hw, Ny224.out]; exact HP68.1); clear HP68; have n0_ := Aside0.mk (hp_); have n1_ := Aside0.mk (blk_grown (g := gb205) (o := .cells #[.int .i64 a1_0, .int .i64 a1_1] 46 (0, 0)) (by (with_reducible repeat (first | refine blk_drewN ?_ _ | refine blk_drew ?_ | refine blk_alloc ?_ _)); exact BK205.out) hg (Kd.R_ne HO_10.out BK205.out (by decide))); have n2_ := Aside0.mk ((by rw [hw]; exact below_set (HB.out) GB38.out : Below w.heap.size w w69)); clear HO_10; clear BK205; clear HB; have HO_10 := n0_; have BK205 := n1_; have HB := n2_; clear n0_ n1_ n2_; clear hg hw hp_; have hcz70_0 : w69.cell? ⟨gb205, 0, none⟩ = some (.int .i64 a1_0) := (blk_cell BK205.out 0).trans rfl; have hcz70_1 : w69.cell? ⟨gb205, 1, none⟩ = some (.int .i64 a1_1) := (blk_cell BK205.out 1).trans rfl; have hfz70_0 := blk_frozen BK205.out 0; have hfz70_1 := blk_frozen BK205.out 1) | ((with_reducible refine gate_callee (f := 35) rfl ?_); refine goesL_ (some 121) rfl rfl Try.func35 (by kernel_rfl) rfl #[.slice (some ⟨go38, 0, none⟩) y224.length co45, .agg #[.int .i64 a1_0, .int .i64 a1_1]] rfl (by (try simp only [List.map_toArray, List.map_cons, List.map_nil]); first | done | (rw [show y224.length = y219.length from (Kd.R_reads' HO_10.out).1.symm] <;> rfl) | rfl | (simp only [List.length_drop, List.length_take]; rfl)) ?_; (with_reducible refine (rpc_Gaps.calls kj39 _ _ y224 a1_0 a1_1 t225 t226 true _ ?side1 ?side2 A56.out).mono ?_); (case side1 => repeat (first | exact (Kd.R_reads' HO_10.out).2.2 | (with_reducible refine Kd.C_alloc ?_ _) | (with_reducible refine Kd.C_drewN ?_ _) | (with_reducible refine Kd.C_drew ?_))); (case side2 => rw [show y224.length = y219.length from (Kd.R_reads' HO_10.out).1.symm]; exact (Kd.R_reads' HO_10.out).2.1); rintro e w71 ⟨rfl, hb⟩; refine ⟨_, rfl, ?_⟩; have n0_ := Aside0.mk (Kd.R_below (by (with_reducible repeat (first | apply Kd.R_alloc | apply Kd.R_drewN | apply Kd.R_drew)); exact HO_10.out) hb); have n1_ := Aside0.mk (blk_below (g := gb205) (o := .cells #[.int .i64 a1_0, .int .i64 a1_1] 46 (0, 0)) (by (with_reducible repeat (first | refine blk_drewN ?_ _ | refine blk_drew ?_ | refine blk_alloc ?_ _)); exact BK205.out) hb); have n2_ := Aside0.mk (below_step (by repeat (first | (with_reducible first | exact HB.out | apply below_alloc | apply pw_below_drewN | apply below_drew1 | refine below_set ?_ GE205.out) | exact HB.out)) hb); clear HO_10; clear BK205; clear HB; have HO_10 := n0_; have BK205 := n1_; have HB := n2_; clear n0_ n1_ n2_; (try clear hb); (try clear hb2); (try clear hk); (try clear hi)) | ((with_reducible refine gate_callee (f := 31) rfl ?_); refine goesL_ (some 125) rfl rfl Try.func31 (by kernel_rfl) rfl #[] rfl (by (try simp only [List.map_toArray, List.map_cons, List.map_nil]); first | done | rfl | (simp only [List.length_drop, List.length_take]; rfl)) ?_; (with_reducible refine (merkhetlaw12_fixed.calls kj39  true _ A57.out).mono ?_); rintro e w72 ⟨rfl, hb⟩; refine ⟨_, rfl, ?_⟩; have n0_ := Aside0.mk (Kd.R_below (by (with_reducible repeat (first | apply Kd.R_alloc | apply Kd.R_drewN | apply Kd.R_drew)); exact HO_10.out) hb); have n1_ := Aside0.mk (blk_below (g := gb205) (o := .cells #[.int .i64 a1_0, .int .i64 a1_1] 46 (0, 0)) (by (with_reducible repeat (first | refine blk_drewN ?_ _ | refine blk_drew ?_ | refine blk_alloc ?_ _)); exact BK205.out) hb); have n2_ := Aside0.mk (below_step (by repeat (first | (with_reducible first | exact HB.out | apply below_alloc | apply pw_below_drewN | apply below_drew1 | refine below_set ?_ GE205.out) | exact HB.out)) hb); clear HO_10; clear BK205; clear HB; have HO_10 := n0_; have BK205 := n1_; have HB := n2_; clear n0_ n1_ n2_; (try clear hb); (try clear hb2); (try clear hk); (try clear hi)))
                                    go_ret
                                    exact ⟨by first | rfl | (simp [errW_none, errW_some] <;> rfl) | (simp [*, errW_none, errW_some] <;> rfl), by repeat (first | (with_reducible first | exact HB.out | apply below_alloc | apply pw_below_drewN | apply below_drew1 | refine below_set ?_ GE205.out) | exact HB.out)⟩
                                · replace c59 := Bool.eq_false_iff.mpr c59
                                  subst c59
                                  have H1 : (some true) = some r := by rw [if_neg (show ¬ (false = true) by decide)] at H; exact H
                                  clear H
                                  have H := H1
                                  clear H1
                                  obtain rfl := Option.some.inj H
                                  have hcz73_0 : wc.cell? ⟨gb205, 0, none⟩ = some (.int .i64 a1_0) := (blk_cell BK205.out 0).trans rfl
                                  have hcz73_1 : wc.cell? ⟨gb205, 1, none⟩ = some (.int .i64 a1_1) := (blk_cell BK205.out 1).trans rfl
                                  have hfz73_0 := blk_frozen BK205.out 0
                                  have hfz73_1 := blk_frozen BK205.out 1
                                  have p223 : 0 ≤ (a1_0 : Int) := of_decide_eq_true (by first | (with_reducible assumption) | assumption)
                                  have q223 : a1_0 < (y219.length : Int) := of_decide_eq_true (by first | (with_reducible assumption) | assumption)
                                  obtain ⟨ad223, e223, hx223_0, hx223_1, hx223_2, hx223_3, hx223_4, hx223_5, hx223_6, hx223_7⟩ := at_T37 (Kd.R_reads' HO_10.out).2.2 a1_0 p223 q223
                                  obtain rfl : (⟨go38, 0, none⟩ : Addr) = ad223 := (by injection e223)
                                  (first | simp only [add_plain] at hx223_0 | simp only [add_at] at hx223_0 | simp only [Addr.add, Nat.zero_add] at hx223_0 | skip)
                                  (first | simp only [add_plain] at hx223_1 | simp only [add_at] at hx223_1 | simp only [Addr.add, Nat.zero_add] at hx223_1 | skip)
                                  (first | simp only [add_plain] at hx223_2 | simp only [add_at] at hx223_2 | simp only [Addr.add, Nat.zero_add] at hx223_2 | skip)
                                  (first | simp only [add_plain] at hx223_3 | simp only [add_at] at hx223_3 | simp only [Addr.add, Nat.zero_add] at hx223_3 | skip)
                                  (first | simp only [add_plain] at hx223_4 | simp only [add_at] at hx223_4 | simp only [Addr.add, Nat.zero_add] at hx223_4 | skip)
                                  (first | simp only [add_plain] at hx223_5 | simp only [add_at] at hx223_5 | simp only [Addr.add, Nat.zero_add] at hx223_5 | skip)
                                  (first | simp only [add_plain] at hx223_6 | simp only [add_at] at hx223_6 | simp only [Addr.add, Nat.zero_add] at hx223_6 | skip)
                                  (first | simp only [add_plain] at hx223_7 | simp only [add_at] at hx223_7 | simp only [Addr.add, Nat.zero_add] at hx223_7 | skip)
                                  replace p223 := eq_true p223
                                  replace q223 := eq_true q223
                                  have p55 : 0 ≤ (a1_0 : Int) := of_decide_eq_true (by first | (with_reducible assumption) | assumption)
                                  have q55 : (a1_0 : Int) < ((y219.length : Int) : Int) := of_decide_eq_true (by first | (with_reducible assumption) | assumption)
                                  obtain ⟨ce55, hcl55, hM55, hcc55, hfr55⟩ := Kd.R_elem HO_10.out z37 (a1_0 : Int) p55 q55
                                  obtain rfl := k37_openM hM55
                                  have hx55_0 : wc.cell? ⟨go38, (a1_0 : Int).toNat * 8, none⟩ = some (.int .u64 ((rd_T37 y219 a1_0).f0)) := hcc55 0 _ rfl
                                  have hx55_1 : wc.cell? ⟨go38, (a1_0 : Int).toNat * 8 + 1, none⟩ = some (.int .u64 ((rd_T37 y219 a1_0).f1)) := hcc55 1 _ rfl
                                  have hx55_2 : wc.cell? ⟨go38, (a1_0 : Int).toNat * 8 + 2, none⟩ = some (.int .u64 ((rd_T37 y219 a1_0).f2)) := hcc55 2 _ rfl
                                  have hx55_3 : wc.cell? ⟨go38, (a1_0 : Int).toNat * 8 + 3, none⟩ = some (.int .u8 ((rd_T37 y219 a1_0).f3)) := hcc55 3 _ rfl
                                  have hx55_4 : wc.cell? ⟨go38, (a1_0 : Int).toNat * 8 + 4, none⟩ = some (.string ((rd_T37 y219 a1_0).f4)) := hcc55 4 _ rfl
                                  have hx55_5 : wc.cell? ⟨go38, (a1_0 : Int).toNat * 8 + 5, none⟩ = some (.string ((rd_T37 y219 a1_0).f5)) := hcc55 5 _ rfl
                                  have hx55_6 : wc.cell? ⟨go38, (a1_0 : Int).toNat * 8 + 6, none⟩ = some (.int .i64 ((rd_T37 y219 a1_0).f6)) := hcc55 6 _ rfl
                                  have hx55_7 : wc.cell? ⟨go38, (a1_0 : Int).toNat * 8 + 7, none⟩ = some (.int .i64 ((rd_T37 y219 a1_0).f7)) := hcc55 7 _ rfl
                                  have hf55_0 : wc.frozen? ⟨go38, (a1_0 : Int).toNat * 8, none⟩ = false := hfr55 0
                                  have hf55_1 : wc.frozen? ⟨go38, (a1_0 : Int).toNat * 8 + 1, none⟩ = false := hfr55 1
                                  have hf55_2 : wc.frozen? ⟨go38, (a1_0 : Int).toNat * 8 + 2, none⟩ = false := hfr55 2
                                  have hf55_3 : wc.frozen? ⟨go38, (a1_0 : Int).toNat * 8 + 3, none⟩ = false := hfr55 3
                                  have hf55_4 : wc.frozen? ⟨go38, (a1_0 : Int).toNat * 8 + 4, none⟩ = false := hfr55 4
                                  have hf55_5 : wc.frozen? ⟨go38, (a1_0 : Int).toNat * 8 + 5, none⟩ = false := hfr55 5
                                  have hf55_6 : wc.frozen? ⟨go38, (a1_0 : Int).toNat * 8 + 6, none⟩ = false := hfr55 6
                                  have hf55_7 : wc.frozen? ⟨go38, (a1_0 : Int).toNat * 8 + 7, none⟩ = false := hfr55 7
                                  clear hcl55 hcc55 hfr55 hM55
                                  replace p55 := eq_true p55
                                  replace q55 := eq_true q55
                                  have HX74 := Aside0.mk (show Kd.R k37 37 wc w.heap.size (fun _ => True) (.slice (some ⟨go38, 0, none⟩) y219.length co45) y219 from (by (with_reducible repeat (first | apply Kd.R_alloc | apply Kd.R_drewN | apply Kd.R_drew)); exact HO_10.out))
                                  obtain ⟨ce74, hcl74, hM74, hcc74, hfr74⟩ := Kd.R_elem HX74.out z37 (a1_0 : Int) (of_decide_eq_true (by first | (with_reducible assumption) | assumption)) (by have h_ : (a1_0 : Int) < ((y219.length : Int) : Int) := of_decide_eq_true (by first | (with_reducible assumption) | assumption); first | exact h_ | (have e_ := (Kd.R_reads' HO_10.out).1; omega) | simpa using h_)
                                  obtain rfl := k37_openM hM74
                                  have HP74 := Kd.R_seg HX74.out (a1_0 : Int) (of_decide_eq_true (by first | (with_reducible assumption) | assumption)) (by have h_ : (a1_0 : Int) < ((y219.length : Int) : Int) := of_decide_eq_true (by first | (with_reducible assumption) | assumption); first | exact h_ | (have e_ := (Kd.R_reads' HO_10.out).1; omega) | simpa using h_) (seg := [.int .i64 (wrap64 (((rd_T37 y219 a1_0).f6) + a2))]) (j := 6) hcl74 hcc74 (show 7 ≤ 8 from by decide) (x' := (⟨(rd_T37 y219 a1_0).f0, (rd_T37 y219 a1_0).f1, (rd_T37 y219 a1_0).f2, (rd_T37 y219 a1_0).f3, (rd_T37 y219 a1_0).f4, (rd_T37 y219 a1_0).f5, wrap64 (((rd_T37 y219 a1_0).f6) + a2), (rd_T37 y219 a1_0).f7⟩ : S37)) (k37_mkM _ _ _ (⟨(rd_T37 y219 a1_0).f0, (rd_T37 y219 a1_0).f1, (rd_T37 y219 a1_0).f2, (rd_T37 y219 a1_0).f3, (rd_T37 y219 a1_0).f4, (rd_T37 y219 a1_0).f5, wrap64 (((rd_T37 y219 a1_0).f6) + a2), (rd_T37 y219 a1_0).f7⟩ : S37) ) (fun _ hk => hk)
                                  have hx74_6 := hcc74 6 _ rfl
                                  (try simp only [show (k37).sz = 8 from rfl, Nat.mul_one, Nat.add_zero] at hx74_6)
                                  have hf74_6 := hfr74 6
                                  (try simp only [show (k37).sz = 8 from rfl, Nat.mul_one, Nat.add_zero] at hf74_6)
                                  clear hcl74 hcc74 hfr74 hM74
                                  go_wp2_with (first | ((with_reducible refine gate_store (t := 2) (p := 117) rfl ?_); refine store_event (t := 2) (p := 117) (v := ?vo_w75) (w1 := (wc.setCell ⟨go38, (a1_0 : Int).toNat * 8 + 6, none⟩ (.int .i64 (wrap64 (((rd_T37 y219 a1_0).f6) + a2))))) ?hg ?ho ?hn ?hr ?_; (case ho => rfl); (case hg => rfl); (case hn => rfl); (case hr => first | (go_simp; done) | (go_simp; rfl)); intro w75 hw; have hg : wc.grownBy w75 (some go38) := (by rw [hw]; exact HP74.2); have hp_ : Kd.R k37 37 w75 w.heap.size (fun _ => True) (.slice (some ⟨go38, 0, none⟩) y219.length co45) y224 := (by rw [hw, Ny224.out]; exact HP74.1); clear HP74; have n0_ := Aside0.mk (hp_); have n1_ := Aside0.mk (blk_grown (g := gb205) (o := .cells #[.int .i64 a1_0, .int .i64 a1_1] 46 (0, 0)) (by (with_reducible repeat (first | refine blk_drewN ?_ _ | refine blk_drew ?_ | refine blk_alloc ?_ _)); exact BK205.out) hg (Kd.R_ne HO_10.out BK205.out (by decide))); have n2_ := Aside0.mk ((by rw [hw]; exact below_set (HB.out) GB38.out : Below w.heap.size w w75)); clear HO_10; clear BK205; clear HB; have HO_10 := n0_; have BK205 := n1_; have HB := n2_; clear n0_ n1_ n2_; clear hg hw hp_; have hcz76_0 : w75.cell? ⟨gb205, 0, none⟩ = some (.int .i64 a1_0) := (blk_cell BK205.out 0).trans rfl; have hcz76_1 : w75.cell? ⟨gb205, 1, none⟩ = some (.int .i64 a1_1) := (blk_cell BK205.out 1).trans rfl; have hfz76_0 := blk_frozen BK205.out 0; have hfz76_1 := blk_frozen BK205.out 1) | ((with_reducible refine gate_callee (f := 35) rfl ?_); refine goesL_ (some 121) rfl rfl Try.func35 (by kernel_rfl) rfl #[.slice (some ⟨go38, 0, none⟩) y224.length co45, .agg #[.int .i64 a1_0, .int .i64 a1_1]] rfl (by (try simp only [List.map_toArray, List.map_cons, List.map_nil]); first | done | (rw [show y224.length = y219.length from (Kd.R_reads' HO_10.out).1.symm] <;> rfl) | rfl | (simp only [List.length_drop, List.length_take]; rfl)) ?_; (with_reducible refine (rpc_Gaps.calls kj39 _ _ y224 a1_0 a1_1 t225 t226 false _ ?side1 ?side2 A56.out).mono ?_); (case side1 => repeat (first | exact (Kd.R_reads' HO_10.out).2.2 | (with_reducible refine Kd.C_alloc ?_ _) | (with_reducible refine Kd.C_drewN ?_ _) | (with_reducible refine Kd.C_drew ?_))); (case side2 => rw [show y224.length = y219.length from (Kd.R_reads' HO_10.out).1.symm]; exact (Kd.R_reads' HO_10.out).2.1); rintro e w77 ⟨rfl, hb⟩; refine ⟨_, rfl, ?_⟩; have n0_ := Aside0.mk (Kd.R_below (by (with_reducible repeat (first | apply Kd.R_alloc | apply Kd.R_drewN | apply Kd.R_drew)); exact HO_10.out) hb); have n1_ := Aside0.mk (blk_below (g := gb205) (o := .cells #[.int .i64 a1_0, .int .i64 a1_1] 46 (0, 0)) (by (with_reducible repeat (first | refine blk_drewN ?_ _ | refine blk_drew ?_ | refine blk_alloc ?_ _)); exact BK205.out) hb); have n2_ := Aside0.mk (below_step (by repeat (first | (with_reducible first | exact HB.out | apply below_alloc | apply pw_below_drewN | apply below_drew1 | refine below_set ?_ GE205.out) | exact HB.out)) hb); clear HO_10; clear BK205; clear HB; have HO_10 := n0_; have BK205 := n1_; have HB := n2_; clear n0_ n1_ n2_; (try clear hb); (try clear hb2); (try clear hk); (try clear hi)) | ((with_reducible refine gate_callee (f := 31) rfl ?_); refine goesL_ (some 125) rfl rfl Try.func31 (by kernel_rfl) rfl #[] rfl (by (try simp only [List.map_toArray, List.map_cons, List.map_nil]); first | done | rfl | (simp only [List.length_drop, List.length_take]; rfl)) ?_; (with_reducible refine (merkhetlaw12_fixed.calls kj39  true _ A57.out).mono ?_); rintro e w78 ⟨rfl, hb⟩; refine ⟨_, rfl, ?_⟩; have n0_ := Aside0.mk (Kd.R_below (by (with_reducible repeat (first | apply Kd.R_alloc | apply Kd.R_drewN | apply Kd.R_drew)); exact HO_10.out) hb); have n1_ := Aside0.mk (blk_below (g := gb205) (o := .cells #[.int .i64 a1_0, .int .i64 a1_1] 46 (0, 0)) (by (with_reducible repeat (first | refine blk_drewN ?_ _ | refine blk_drew ?_ | refine blk_alloc ?_ _)); exact BK205.out) hb); have n2_ := Aside0.mk (below_step (by repeat (first | (with_reducible first | exact HB.out | apply below_alloc | apply pw_below_drewN | apply below_drew1 | refine below_set ?_ GE205.out) | exact HB.out)) hb); clear HO_10; clear BK205; clear HB; have HO_10 := n0_; have BK205 := n1_; have HB := n2_; clear n0_ n1_ n2_; (try clear hb); (try clear hb2); (try clear hk); (try clear hi)))
                                  go_ret
                                  exact ⟨by first | rfl | (simp [errW_none, errW_some] <;> rfl) | (simp [*, errW_none, errW_some] <;> rfl), by repeat (first | (with_reducible first | exact HB.out | apply below_alloc | apply pw_below_drewN | apply below_drew1 | refine below_set ?_ GE205.out) | exact HB.out)⟩
                              · replace c58 := Bool.eq_false_iff.mpr c58
                                subst c58
                                have H1 : (some false) = some r := by rw [if_neg (show ¬ (false = true) by decide)] at H; exact H
                                clear H
                                have H := H1
                                clear H1
                                obtain rfl := Option.some.inj H
                                have hcz79_0 : wc.cell? ⟨gb205, 0, none⟩ = some (.int .i64 a1_0) := (blk_cell BK205.out 0).trans rfl
                                have hcz79_1 : wc.cell? ⟨gb205, 1, none⟩ = some (.int .i64 a1_1) := (blk_cell BK205.out 1).trans rfl
                                have hfz79_0 := blk_frozen BK205.out 0
                                have hfz79_1 := blk_frozen BK205.out 1
                                have p223 : 0 ≤ (a1_0 : Int) := of_decide_eq_true (by first | (with_reducible assumption) | assumption)
                                have q223 : a1_0 < (y219.length : Int) := of_decide_eq_true (by first | (with_reducible assumption) | assumption)
                                obtain ⟨ad223, e223, hx223_0, hx223_1, hx223_2, hx223_3, hx223_4, hx223_5, hx223_6, hx223_7⟩ := at_T37 (Kd.R_reads' HO_10.out).2.2 a1_0 p223 q223
                                obtain rfl : (⟨go38, 0, none⟩ : Addr) = ad223 := (by injection e223)
                                (first | simp only [add_plain] at hx223_0 | simp only [add_at] at hx223_0 | simp only [Addr.add, Nat.zero_add] at hx223_0 | skip)
                                (first | simp only [add_plain] at hx223_1 | simp only [add_at] at hx223_1 | simp only [Addr.add, Nat.zero_add] at hx223_1 | skip)
                                (first | simp only [add_plain] at hx223_2 | simp only [add_at] at hx223_2 | simp only [Addr.add, Nat.zero_add] at hx223_2 | skip)
                                (first | simp only [add_plain] at hx223_3 | simp only [add_at] at hx223_3 | simp only [Addr.add, Nat.zero_add] at hx223_3 | skip)
                                (first | simp only [add_plain] at hx223_4 | simp only [add_at] at hx223_4 | simp only [Addr.add, Nat.zero_add] at hx223_4 | skip)
                                (first | simp only [add_plain] at hx223_5 | simp only [add_at] at hx223_5 | simp only [Addr.add, Nat.zero_add] at hx223_5 | skip)
                                (first | simp only [add_plain] at hx223_6 | simp only [add_at] at hx223_6 | simp only [Addr.add, Nat.zero_add] at hx223_6 | skip)
                                (first | simp only [add_plain] at hx223_7 | simp only [add_at] at hx223_7 | simp only [Addr.add, Nat.zero_add] at hx223_7 | skip)
                                replace p223 := eq_true p223
                                replace q223 := eq_true q223
                                have p55 : 0 ≤ (a1_0 : Int) := of_decide_eq_true (by first | (with_reducible assumption) | assumption)
                                have q55 : (a1_0 : Int) < ((y219.length : Int) : Int) := of_decide_eq_true (by first | (with_reducible assumption) | assumption)
                                obtain ⟨ce55, hcl55, hM55, hcc55, hfr55⟩ := Kd.R_elem HO_10.out z37 (a1_0 : Int) p55 q55
                                obtain rfl := k37_openM hM55
                                have hx55_0 : wc.cell? ⟨go38, (a1_0 : Int).toNat * 8, none⟩ = some (.int .u64 ((rd_T37 y219 a1_0).f0)) := hcc55 0 _ rfl
                                have hx55_1 : wc.cell? ⟨go38, (a1_0 : Int).toNat * 8 + 1, none⟩ = some (.int .u64 ((rd_T37 y219 a1_0).f1)) := hcc55 1 _ rfl
                                have hx55_2 : wc.cell? ⟨go38, (a1_0 : Int).toNat * 8 + 2, none⟩ = some (.int .u64 ((rd_T37 y219 a1_0).f2)) := hcc55 2 _ rfl
                                have hx55_3 : wc.cell? ⟨go38, (a1_0 : Int).toNat * 8 + 3, none⟩ = some (.int .u8 ((rd_T37 y219 a1_0).f3)) := hcc55 3 _ rfl
                                have hx55_4 : wc.cell? ⟨go38, (a1_0 : Int).toNat * 8 + 4, none⟩ = some (.string ((rd_T37 y219 a1_0).f4)) := hcc55 4 _ rfl
                                have hx55_5 : wc.cell? ⟨go38, (a1_0 : Int).toNat * 8 + 5, none⟩ = some (.string ((rd_T37 y219 a1_0).f5)) := hcc55 5 _ rfl
                                have hx55_6 : wc.cell? ⟨go38, (a1_0 : Int).toNat * 8 + 6, none⟩ = some (.int .i64 ((rd_T37 y219 a1_0).f6)) := hcc55 6 _ rfl
                                have hx55_7 : wc.cell? ⟨go38, (a1_0 : Int).toNat * 8 + 7, none⟩ = some (.int .i64 ((rd_T37 y219 a1_0).f7)) := hcc55 7 _ rfl
                                have hf55_0 : wc.frozen? ⟨go38, (a1_0 : Int).toNat * 8, none⟩ = false := hfr55 0
                                have hf55_1 : wc.frozen? ⟨go38, (a1_0 : Int).toNat * 8 + 1, none⟩ = false := hfr55 1
                                have hf55_2 : wc.frozen? ⟨go38, (a1_0 : Int).toNat * 8 + 2, none⟩ = false := hfr55 2
                                have hf55_3 : wc.frozen? ⟨go38, (a1_0 : Int).toNat * 8 + 3, none⟩ = false := hfr55 3
                                have hf55_4 : wc.frozen? ⟨go38, (a1_0 : Int).toNat * 8 + 4, none⟩ = false := hfr55 4
                                have hf55_5 : wc.frozen? ⟨go38, (a1_0 : Int).toNat * 8 + 5, none⟩ = false := hfr55 5
                                have hf55_6 : wc.frozen? ⟨go38, (a1_0 : Int).toNat * 8 + 6, none⟩ = false := hfr55 6
                                have hf55_7 : wc.frozen? ⟨go38, (a1_0 : Int).toNat * 8 + 7, none⟩ = false := hfr55 7
                                clear hcl55 hcc55 hfr55 hM55
                                replace p55 := eq_true p55
                                replace q55 := eq_true q55
                                have HX80 := Aside0.mk (show Kd.R k37 37 wc w.heap.size (fun _ => True) (.slice (some ⟨go38, 0, none⟩) y219.length co45) y219 from (by (with_reducible repeat (first | apply Kd.R_alloc | apply Kd.R_drewN | apply Kd.R_drew)); exact HO_10.out))
                                obtain ⟨ce80, hcl80, hM80, hcc80, hfr80⟩ := Kd.R_elem HX80.out z37 (a1_0 : Int) (of_decide_eq_true (by first | (with_reducible assumption) | assumption)) (by have h_ : (a1_0 : Int) < ((y219.length : Int) : Int) := of_decide_eq_true (by first | (with_reducible assumption) | assumption); first | exact h_ | (have e_ := (Kd.R_reads' HO_10.out).1; omega) | simpa using h_)
                                obtain rfl := k37_openM hM80
                                have HP80 := Kd.R_seg HX80.out (a1_0 : Int) (of_decide_eq_true (by first | (with_reducible assumption) | assumption)) (by have h_ : (a1_0 : Int) < ((y219.length : Int) : Int) := of_decide_eq_true (by first | (with_reducible assumption) | assumption); first | exact h_ | (have e_ := (Kd.R_reads' HO_10.out).1; omega) | simpa using h_) (seg := [.int .i64 (wrap64 (((rd_T37 y219 a1_0).f6) + a2))]) (j := 6) hcl80 hcc80 (show 7 ≤ 8 from by decide) (x' := (⟨(rd_T37 y219 a1_0).f0, (rd_T37 y219 a1_0).f1, (rd_T37 y219 a1_0).f2, (rd_T37 y219 a1_0).f3, (rd_T37 y219 a1_0).f4, (rd_T37 y219 a1_0).f5, wrap64 (((rd_T37 y219 a1_0).f6) + a2), (rd_T37 y219 a1_0).f7⟩ : S37)) (k37_mkM _ _ _ (⟨(rd_T37 y219 a1_0).f0, (rd_T37 y219 a1_0).f1, (rd_T37 y219 a1_0).f2, (rd_T37 y219 a1_0).f3, (rd_T37 y219 a1_0).f4, (rd_T37 y219 a1_0).f5, wrap64 (((rd_T37 y219 a1_0).f6) + a2), (rd_T37 y219 a1_0).f7⟩ : S37) ) (fun _ hk => hk)
                                have hx80_6 := hcc80 6 _ rfl
                                (try simp only [show (k37).sz = 8 from rfl, Nat.mul_one, Nat.add_zero] at hx80_6)
                                have hf80_6 := hfr80 6
                                (try simp only [show (k37).sz = 8 from rfl, Nat.mul_one, Nat.add_zero] at hf80_6)
                                clear hcl80 hcc80 hfr80 hM80
                                go_wp2_with (first | ((with_reducible refine gate_store (t := 2) (p := 117) rfl ?_); refine store_event (t := 2) (p := 117) (v := ?vo_w81) (w1 := (wc.setCell ⟨go38, (a1_0 : Int).toNat * 8 + 6, none⟩ (.int .i64 (wrap64 (((rd_T37 y219 a1_0).f6) + a2))))) ?hg ?ho ?hn ?hr ?_; (case ho => rfl); (case hg => rfl); (case hn => rfl); (case hr => first | (go_simp; done) | (go_simp; rfl)); intro w81 hw; have hg : wc.grownBy w81 (some go38) := (by rw [hw]; exact HP80.2); have hp_ : Kd.R k37 37 w81 w.heap.size (fun _ => True) (.slice (some ⟨go38, 0, none⟩) y219.length co45) y224 := (by rw [hw, Ny224.out]; exact HP80.1); clear HP80; have n0_ := Aside0.mk (hp_); have n1_ := Aside0.mk (blk_grown (g := gb205) (o := .cells #[.int .i64 a1_0, .int .i64 a1_1] 46 (0, 0)) (by (with_reducible repeat (first | refine blk_drewN ?_ _ | refine blk_drew ?_ | refine blk_alloc ?_ _)); exact BK205.out) hg (Kd.R_ne HO_10.out BK205.out (by decide))); have n2_ := Aside0.mk ((by rw [hw]; exact below_set (HB.out) GB38.out : Below w.heap.size w w81)); clear HO_10; clear BK205; clear HB; have HO_10 := n0_; have BK205 := n1_; have HB := n2_; clear n0_ n1_ n2_; clear hg hw hp_; have hcz82_0 : w81.cell? ⟨gb205, 0, none⟩ = some (.int .i64 a1_0) := (blk_cell BK205.out 0).trans rfl; have hcz82_1 : w81.cell? ⟨gb205, 1, none⟩ = some (.int .i64 a1_1) := (blk_cell BK205.out 1).trans rfl; have hfz82_0 := blk_frozen BK205.out 0; have hfz82_1 := blk_frozen BK205.out 1) | ((with_reducible refine gate_callee (f := 35) rfl ?_); refine goesL_ (some 121) rfl rfl Try.func35 (by kernel_rfl) rfl #[.slice (some ⟨go38, 0, none⟩) y224.length co45, .agg #[.int .i64 a1_0, .int .i64 a1_1]] rfl (by (try simp only [List.map_toArray, List.map_cons, List.map_nil]); first | done | (rw [show y224.length = y219.length from (Kd.R_reads' HO_10.out).1.symm] <;> rfl) | rfl | (simp only [List.length_drop, List.length_take]; rfl)) ?_; (with_reducible refine (rpc_Gaps.calls kj39 _ _ y224 a1_0 a1_1 t225 t226 t227 _ ?side1 ?side2 A56.out).mono ?_); (case side1 => repeat (first | exact (Kd.R_reads' HO_10.out).2.2 | (with_reducible refine Kd.C_alloc ?_ _) | (with_reducible refine Kd.C_drewN ?_ _) | (with_reducible refine Kd.C_drew ?_))); (case side2 => rw [show y224.length = y219.length from (Kd.R_reads' HO_10.out).1.symm]; exact (Kd.R_reads' HO_10.out).2.1); rintro e w83 ⟨rfl, hb⟩; refine ⟨_, rfl, ?_⟩; have n0_ := Aside0.mk (Kd.R_below (by (with_reducible repeat (first | apply Kd.R_alloc | apply Kd.R_drewN | apply Kd.R_drew)); exact HO_10.out) hb); have n1_ := Aside0.mk (blk_below (g := gb205) (o := .cells #[.int .i64 a1_0, .int .i64 a1_1] 46 (0, 0)) (by (with_reducible repeat (first | refine blk_drewN ?_ _ | refine blk_drew ?_ | refine blk_alloc ?_ _)); exact BK205.out) hb); have n2_ := Aside0.mk (below_step (by repeat (first | (with_reducible first | exact HB.out | apply below_alloc | apply pw_below_drewN | apply below_drew1 | refine below_set ?_ GE205.out) | exact HB.out)) hb); clear HO_10; clear BK205; clear HB; have HO_10 := n0_; have BK205 := n1_; have HB := n2_; clear n0_ n1_ n2_; (try clear hb); (try clear hb2); (try clear hk); (try clear hi)) | ((with_reducible refine gate_callee (f := 31) rfl ?_); refine goesL_ (some 125) rfl rfl Try.func31 (by kernel_rfl) rfl #[] rfl (by (try simp only [List.map_toArray, List.map_cons, List.map_nil]); first | done | rfl | (simp only [List.length_drop, List.length_take]; rfl)) ?_; (with_reducible refine (merkhetlaw12_fixed.calls kj39  false _ A57.out).mono ?_); rintro e w84 ⟨rfl, hb⟩; refine ⟨_, rfl, ?_⟩; have n0_ := Aside0.mk (Kd.R_below (by (with_reducible repeat (first | apply Kd.R_alloc | apply Kd.R_drewN | apply Kd.R_drew)); exact HO_10.out) hb); have n1_ := Aside0.mk (blk_below (g := gb205) (o := .cells #[.int .i64 a1_0, .int .i64 a1_1] 46 (0, 0)) (by (with_reducible repeat (first | refine blk_drewN ?_ _ | refine blk_drew ?_ | refine blk_alloc ?_ _)); exact BK205.out) hb); have n2_ := Aside0.mk (below_step (by repeat (first | (with_reducible first | exact HB.out | apply below_alloc | apply pw_below_drewN | apply below_drew1 | refine below_set ?_ GE205.out) | exact HB.out)) hb); clear HO_10; clear BK205; clear HB; have HO_10 := n0_; have BK205 := n1_; have HB := n2_; clear n0_ n1_ n2_; (try clear hb); (try clear hb2); (try clear hk); (try clear hi)))
                                go_ret
                                exact ⟨by first | rfl | (simp [errW_none, errW_some] <;> rfl) | (simp [*, errW_none, errW_some] <;> rfl), by repeat (first | (with_reducible first | exact HB.out | apply below_alloc | apply pw_below_drewN | apply below_drew1 | refine below_set ?_ GE205.out) | exact HB.out)⟩
                            · rw [if_neg c54] at H
                              exact absurd H (by simp)
                          · rw [if_neg c53] at H
                            exact absurd H (by simp)
                  · rw [if_neg c37] at H
                    exact absurd H (by simp)
                · rw [if_neg c36] at H
                  exact absurd H (by simp)
              · rw [if_neg c35] at H
                exact absurd H (by simp)

/-- THE ONE PURE STATEMENT of merkhetlaw12_RpcMoved. -/
def merkhetlaw12_RpcMoved.Pure : Prop := ∀ (l0 : List (S37)) (a1_0 : Int) (a1_1 : Int) (a2 : Int), l0.length ≤ maxLen → (∀ x0_ ∈ l0, ((Lit.int .u64 x0_.f0).wf = true ∧ (Lit.int .u64 x0_.f1).wf = true ∧ (Lit.int .u64 x0_.f2).wf = true ∧ (Lit.int .u8 x0_.f3).wf = true ∧ x0_.f4.size ≤ maxLen ∧ x0_.f5.size ≤ maxLen ∧ (Lit.int .i64 x0_.f6).wf = true ∧ (Lit.int .i64 x0_.f7).wf = true)) → (Lit.int .i64 a1_0).wf = true → (Lit.int .i64 a1_1).wf = true → (Lit.int .i64 a2).wf = true → ∃ k, merkhetlaw12_RpcMoved.f k l0 a1_0 a1_1 a2 = some true

end Go.Proofs.Ytcgjplolehhpjaa.R
