-- WRITTEN FOR THIS CLAIM by wip/tools/mp.py, a program of this project that drives the kit's print; the functions that the print does not take are this project's own texts.
import Derived.Test.YtcgjplolehhpjaaSx0
import Derived.Test.YtcgjplolehhpjaaSx2
import Derived.Test.YtcgjplolehhpjaaSx4
import Derived.Test.YtcgjplolehhpjaaSx5
namespace Go.Proofs.Ytcgjplolehhpjaa.S
open Go.RowKit Go.Proofs.YtcgjplolehhpjaaW.PrintWords Go.Proofs.YtcgjplolehhpjaaW.PrintLast Go.Proofs.YtcgjplolehhpjaaW.PrintMore
attribute [local go_sem] max2_int min2_int max_two min_two max_three min_three max_four min_four   -- for this text's walks alone
set_option linter.unusedVariables false
set_option linter.unusedSimpArgs false

/-! ### merkhetref12_Gaps: function 36 -/
def merkhetref12_Gaps.f (k : Nat) (l0 : List S37) (a1_0 a1_1 : Int) : Option (Int × Int × Bool) :=
  if 0 ≤ a1_0 then (if a1_0 < (l0.length : Int) then (if 0 ≤ a1_1 then (if a1_1 < (l0.length : Int) then
    ((merkhetref01_May.f k (rd_T37 l0 a1_0).f0 (rd_T37 l0 a1_0).f1 (rd_T37 l0 a1_0).f2 (rd_T37 l0 a1_0).f3 (rd_T37 l0 a1_0).f4 (rd_T37 l0 a1_0).f5 (rd_T37 l0 a1_0).f6 (rd_T37 l0 a1_0).f7).bind fun m => if m = true then
      ((merkhetref01_May.f k (rd_T37 l0 a1_1).f0 (rd_T37 l0 a1_1).f1 (rd_T37 l0 a1_1).f2 (rd_T37 l0 a1_1).f3 (rd_T37 l0 a1_1).f4 (rd_T37 l0 a1_1).f5 (rd_T37 l0 a1_1).f6 (rd_T37 l0 a1_1).f7).bind fun m2 => if m2 = true then
        some (wrap64 ((rd_T37 l0 a1_1).f6 - (rd_T37 l0 a1_0).f6), wrap64 (wrap64 (wrap64 ((rd_T37 l0 a1_0).f6 + (rd_T37 l0 a1_0).f7) - (rd_T37 l0 a1_1).f6) - (rd_T37 l0 a1_1).f7), true) else some (0, 0, false)) else some (0, 0, false))
    else some (0, 0, false)) else some (0, 0, false)) else some (0, 0, false)) else some (0, 0, false)
theorem merkhetref12_Gaps.mono : ∀ a0 a1 a2 k, LeO (merkhetref12_Gaps.f k a0 a1 a2) (merkhetref12_Gaps.f (k + 1) a0 a1 a2) := by
  intro a0 a1 a2 k
  exact LeO.ite (LeO.ite (LeO.ite (LeO.ite (LeO.bind (merkhetref01_May.mono _ _ _ _ _ _ _ _ _) (fun _ => LeO.ite (LeO.bind (merkhetref01_May.mono _ _ _ _ _ _ _ _ _) (fun _ => LeO.refl _)) (LeO.refl _))) (LeO.refl _)) (LeO.refl _)) (LeO.refl _)) (LeO.refl _)
set_option maxHeartbeats 8000000 in
set_option maxRecDepth 100000 in
theorem merkhetref12_Gaps.calls (k : Nat) (A0 : Option Addr) (c0 : Nat) (l0 : List S37) (a1_0 a1_1 : Int) (r1 r2 : Int) (r3 : Bool) (w : World) (hr0 : Kd.C k37 w A0 l0.length l0) (hc0 : l0.length ≤ c0) (h : merkhetref12_Gaps.f k l0 a1_0 a1_1 = some (r1, r2, r3)) :
    Calls Try.prog 36 #[.slice A0 l0.length c0, .agg #[.int .i64 a1_0, .int .i64 a1_1]] w fun e w' => e = .returned (.tuple #[.int .i64 r1, .int .i64 r2, .bool r3]) ∧ Below w.heap.size w w' := by
  have hu_ := Try.underlying37
  have hup_ := Try.underlying46
  have HR := Aside0.mk hr0
  have HB := Aside0.mk (below_alloc (Below.refl w.heap.size w) (.cells #[.int .i64 a1_0, .int .i64 a1_1] 46 (0, 0)))
  clear hr0
  unfold merkhetref12_Gaps.f at h
  have hno : ∀ {x y : Int} {z : Bool}, some ((0 : Int), (0 : Int), false) = some (x, y, z) → x = 0 ∧ y = 0 ∧ z = false := fun h => by simpa [eq_comm] using Option.some.inj h
  by_cases c1 : 0 ≤ a1_0
  case neg =>
    rw [if_neg c1] at h
    obtain ⟨rfl, rfl, rfl⟩ := hno h
    clear h hno
    have c1b : decide (a1_0 < 0) = true := decide_eq_true (by omega)
    go_enter Try.func36, Try.ntmps36
    go_wp2
    exact bodyPost_ret (v := .tuple #[.int .i64 0, .int .i64 0, .bool false]) (by simp [results, Try.results36, go_sem]) rfl ⟨rfl, HB.out⟩
  rw [if_pos c1] at h
  have c1b : decide (a1_0 < 0) = false := decide_eq_false (by omega)
  by_cases c2 : a1_0 < (l0.length : Int)
  case neg =>
    rw [if_neg c2] at h
    obtain ⟨rfl, rfl, rfl⟩ := hno h
    clear h hno
    have c2b : decide ((l0.length : Int) ≤ a1_0) = true := decide_eq_true (by omega)
    go_enter Try.func36, Try.ntmps36
    go_wp2
    exact bodyPost_ret (v := .tuple #[.int .i64 0, .int .i64 0, .bool false]) (by simp [results, Try.results36, go_sem]) rfl ⟨rfl, HB.out⟩
  rw [if_pos c2] at h
  have c2b : decide ((l0.length : Int) ≤ a1_0) = false := decide_eq_false (by omega)
  by_cases c3 : 0 ≤ a1_1
  case neg =>
    rw [if_neg c3] at h
    obtain ⟨rfl, rfl, rfl⟩ := hno h
    clear h hno
    have c3b : decide (a1_1 < 0) = true := decide_eq_true (by omega)
    go_enter Try.func36, Try.ntmps36
    go_wp2
    exact bodyPost_ret (v := .tuple #[.int .i64 0, .int .i64 0, .bool false]) (by simp [results, Try.results36, go_sem]) rfl ⟨rfl, HB.out⟩
  rw [if_pos c3] at h
  have c3b : decide (a1_1 < 0) = false := decide_eq_false (by omega)
  by_cases c4 : a1_1 < (l0.length : Int)
  case neg =>
    rw [if_neg c4] at h
    obtain ⟨rfl, rfl, rfl⟩ := hno h
    clear h hno
    have c4b : decide ((l0.length : Int) ≤ a1_1) = true := decide_eq_true (by omega)
    go_enter Try.func36, Try.ntmps36
    go_wp2
    exact bodyPost_ret (v := .tuple #[.int .i64 0, .int .i64 0, .bool false]) (by simp [results, Try.results36, go_sem]) rfl ⟨rfl, HB.out⟩
  rw [if_pos c4] at h
  have c4b : decide ((l0.length : Int) ≤ a1_1) = false := decide_eq_false (by omega)
  obtain ⟨m, hm, h⟩ := Option.bind_eq_some_iff.mp h
  obtain ⟨ad, e, hx0, hx1, hx2, hx3, hx4, hx5, hx6, hx7⟩ := at_T37 HR.out a1_0 c1 c2
  cases e
  obtain ⟨ad', e, hy0, hy1, hy2, hy3, hy4, hy5, hy6, hy7⟩ := at_T37 HR.out a1_1 c3 c4
  cases e
  generalize rd_T37 l0 a1_0 = x at hx0 hx1 hx2 hx3 hx4 hx5 hx6 hx7 hm h
  generalize rd_T37 l0 a1_1 = y at hy0 hy1 hy2 hy3 hy4 hy5 hy6 hy7 h
  obtain ⟨x0, x1, x2, x3, x4, x5, x6, x7⟩ := x
  obtain ⟨y0, y1, y2, y3, y4, y5, y6, y7⟩ := y
  have HM := Aside0.mk hm
  have HH := Aside0.mk h
  clear hm h hno
  have hq : ∀ o : Obj, Below w.heap.size w (w.alloc o) := fun o => below_alloc (Below.refl _ _) o
  go_enter Try.func36, Try.ntmps36
  go_upto_region 3 with fail
  obtain ⟨W, hW⟩ : ∃ W, W = w.alloc (.cells #[.int .i64 a1_0, .int .i64 a1_1] 46 (0, 0)) := ⟨_, rfl⟩
  have hbW : Below w.heap.size w W := by rw [hW]; exact below_alloc (Below.refl _ _) _
  replace hx0 := (hbW.cell (World.block_lt_of_cell? w _ hx0)).trans hx0
  replace hx1 := (hbW.cell (World.block_lt_of_cell? w _ hx1)).trans hx1
  replace hx2 := (hbW.cell (World.block_lt_of_cell? w _ hx2)).trans hx2
  replace hx3 := (hbW.cell (World.block_lt_of_cell? w _ hx3)).trans hx3
  replace hx4 := (hbW.cell (World.block_lt_of_cell? w _ hx4)).trans hx4
  replace hx5 := (hbW.cell (World.block_lt_of_cell? w _ hx5)).trans hx5
  replace hx6 := (hbW.cell (World.block_lt_of_cell? w _ hx6)).trans hx6
  replace hx7 := (hbW.cell (World.block_lt_of_cell? w _ hx7)).trans hx7
  replace hy0 := (hbW.cell (World.block_lt_of_cell? w _ hy0)).trans hy0
  replace hy1 := (hbW.cell (World.block_lt_of_cell? w _ hy1)).trans hy1
  replace hy2 := (hbW.cell (World.block_lt_of_cell? w _ hy2)).trans hy2
  replace hy3 := (hbW.cell (World.block_lt_of_cell? w _ hy3)).trans hy3
  replace hy4 := (hbW.cell (World.block_lt_of_cell? w _ hy4)).trans hy4
  replace hy5 := (hbW.cell (World.block_lt_of_cell? w _ hy5)).trans hy5
  replace hy6 := (hbW.cell (World.block_lt_of_cell? w _ hy6)).trans hy6
  replace hy7 := (hbW.cell (World.block_lt_of_cell? w _ hy7)).trans hy7
  have hp0 : W.cell? ⟨w.heap.size, 0, none⟩ = some (.int .i64 a1_0) := by rw [hW]; exact (blk_cell (blk_new w _) 0).trans rfl
  have hp1 : W.cell? ⟨w.heap.size, 1, none⟩ = some (.int .i64 a1_1) := by rw [hW]; exact (blk_cell (blk_new w _) 1).trans rfl
  rw [← hW]
  have HBW := Aside0.mk hbW
  clear hW hbW hq
  have q1 : ∀ {a : Addr} {v : Value}, W.cell? a = some v → ∀ o : Obj, (W.alloc o).cell? a = some v := fun h o => ((below_alloc (Below.refl W.heap.size W) o).cell (World.block_lt_of_cell? W _ h)).trans h
  have q2 : ∀ {a : Addr} {v : Value}, W.cell? a = some v → ∀ o o' : Obj, ((W.alloc o).alloc o').cell? a = some v := fun h o o' => ((below_alloc (below_alloc (Below.refl W.heap.size W) o) o').cell (World.block_lt_of_cell? W _ h)).trans h
  have gx01 := q1 hx0
  have gx02 := q2 hx0
  have gx11 := q1 hx1
  have gx12 := q2 hx1
  have gx21 := q1 hx2
  have gx22 := q2 hx2
  have gx31 := q1 hx3
  have gx32 := q2 hx3
  have gx41 := q1 hx4
  have gx42 := q2 hx4
  have gx51 := q1 hx5
  have gx52 := q2 hx5
  have gx61 := q1 hx6
  have gx62 := q2 hx6
  have gx71 := q1 hx7
  have gx72 := q2 hx7
  have gy01 := q1 hy0
  have gy02 := q2 hy0
  have gy11 := q1 hy1
  have gy12 := q2 hy1
  have gy21 := q1 hy2
  have gy22 := q2 hy2
  have gy31 := q1 hy3
  have gy32 := q2 hy3
  have gy41 := q1 hy4
  have gy42 := q2 hy4
  have gy51 := q1 hy5
  have gy52 := q2 hy5
  have gy61 := q1 hy6
  have gy62 := q2 hy6
  have gy71 := q1 hy7
  have gy72 := q2 hy7
  have gp01 := q1 hp0
  have gp02 := q2 hp0
  have gp11 := q1 hp1
  have gp12 := q2 hp1
  clear q1 q2
  go_cut [7, 8] (fun v7 v8 wc => ∃ g7 g8 : Nat, v7 = .pointer (some ⟨g7, 0, none⟩) ∧ v8 = .pointer (some ⟨g8, 0, none⟩) ∧ Aside0 (Below w.heap.size w wc) ∧ Aside0 (wc.heap[g7]? = some (.cells #[.int .u64 x0, .int .u64 x1, .int .u64 x2, .int .u8 x3, .string x4, .string x5, .int .i64 x6, .int .i64 x7] 37 (0, 0))) ∧ Aside0 (wc.heap[g8]? = some (.cells #[.int .u64 y0, .int .u64 y1, .int .u64 y2, .int .u8 y3, .string y4, .string y5, .int .i64 y6, .int .i64 y7] 37 (0, 0))))
  case first =>
    go_region
    all_goals
      go_wp2_with (fail)
      go_meet
      refine ⟨_, _, rfl, rfl, ⟨?_⟩, ⟨?_⟩, ⟨?_⟩⟩
      · (repeat (first | refine below_drew ?_ | refine pw_below_drewN ?_ _ | refine below_alloc ?_ _)); exact HBW.out
      · (repeat (first | refine blk_drew ?_ | refine blk_drewN ?_ _)); first | exact blk_alloc (blk_new W (.cells #[.int .u64 x0, .int .u64 x1, .int .u64 x2, .int .u8 x3, .string x4, .string x5, .int .i64 x6, .int .i64 x7] 37 (0, 0))) (.cells #[.int .u64 y0, .int .u64 y1, .int .u64 y2, .int .u8 y3, .string y4, .string y5, .int .i64 y6, .int .i64 y7] 37 (0, 0)) | (have h_ := blk_new (W.alloc (.cells #[.int .u64 y0, .int .u64 y1, .int .u64 y2, .int .u8 y3, .string y4, .string y5, .int .i64 y6, .int .i64 y7] 37 (0, 0))) (.cells #[.int .u64 x0, .int .u64 x1, .int .u64 x2, .int .u8 x3, .string x4, .string x5, .int .i64 x6, .int .i64 x7] 37 (0, 0)); simpa using h_)
      · (repeat (first | refine blk_drew ?_ | refine blk_drewN ?_ _)); first | exact blk_alloc (blk_new W (.cells #[.int .u64 y0, .int .u64 y1, .int .u64 y2, .int .u8 y3, .string y4, .string y5, .int .i64 y6, .int .i64 y7] 37 (0, 0))) (.cells #[.int .u64 x0, .int .u64 x1, .int .u64 x2, .int .u8 x3, .string x4, .string x5, .int .i64 x6, .int .i64 x7] 37 (0, 0)) | (have h_ := blk_new (W.alloc (.cells #[.int .u64 x0, .int .u64 x1, .int .u64 x2, .int .u8 x3, .string x4, .string x5, .int .i64 x6, .int .i64 x7] 37 (0, 0))) (.cells #[.int .u64 y0, .int .u64 y1, .int .u64 y2, .int .u8 y3, .string y4, .string y5, .int .i64 y6, .int .i64 y7] 37 (0, 0)); simpa using h_)
  case rest =>
    obtain ⟨g7, g8, rfl, rfl, HBC, HC, HS⟩ := hcut
    clear hx0 hx1 hx2 hx3 hx4 hx5 hx6 hx7 hy0 hy1 hy2 hy3 hy4 hy5 hy6 hy7 gx01 gx02 gx11 gx12 gx21 gx22 gx31 gx32 gx41 gx42 gx51 gx52 gx61 gx62 gx71 gx72 gy01 gy02 gy11 gy12 gy21 gy22 gy31 gy32 gy41 gy42 gy51 gy52 gy61 gy62 gy71 gy72 gp01 gp02 gp11 gp12
    have C0 := blk_cell HC.out 0
    have C1 := blk_cell HC.out 1
    have C2 := blk_cell HC.out 2
    have C3 := blk_cell HC.out 3
    have C4 := blk_cell HC.out 4
    have C5 := blk_cell HC.out 5
    have C6 := blk_cell HC.out 6
    have C7 := blk_cell HC.out 7
    cases m with
    | false =>
      have he := Option.some.inj (show some ((0 : Int), (0 : Int), false) = some (r1, r2, r3) from HH.out)
      obtain ⟨rfl, rfl, rfl⟩ := by simpa only [Prod.mk.injEq] using he
      clear he HH
      go_wp2_with (go_at_call 45; refine (merkhetref01_May.calls k x0 x1 x2 x3 x4 x5 x6 x7 false _ HM.out).mono ?_; rintro e w2 ⟨rfl, hb⟩)
      exact bodyPost_ret (v := .tuple #[.int .i64 0, .int .i64 0, .bool false]) (by simp [results, Try.results36, go_sem]) rfl ⟨rfl, below_step HBC.out hb⟩
    | true =>
      obtain ⟨m2, hm2, h2⟩ := Option.bind_eq_some_iff.mp (show ((merkhetref01_May.f k y0 y1 y2 y3 y4 y5 y6 y7).bind fun m2 => if m2 = true then some (wrap64 (y6 - x6), wrap64 (wrap64 (wrap64 (x6 + x7) - y6) - y7), true) else some ((0 : Int), (0 : Int), false)) = some (r1, r2, r3) from HH.out)
      have HM2 := Aside0.mk hm2
      have HH2 := Aside0.mk h2
      clear hm2 h2 HH
      cases m2 with
      | false =>
        have he := Option.some.inj (show some ((0 : Int), (0 : Int), false) = some (r1, r2, r3) from HH2.out)
        obtain ⟨rfl, rfl, rfl⟩ := by simpa only [Prod.mk.injEq] using he
        clear he HH2
        go_wp2_with (fail)
        refine (merkhetref01_May.calls k x0 x1 x2 x3 x4 x5 x6 x7 true _ HM.out).mono ?_
        rintro e w2 ⟨rfl, hb⟩
        have HB2 := Aside0.mk hb
        have HC2 := Aside0.mk (blk_below HC.out hb)
        have HS2 := Aside0.mk (blk_below HS.out hb)
        clear hb C0 C1 C2 C3 C4 C5 C6 C7
        have S0 := blk_cell HS2.out 0
        have S1 := blk_cell HS2.out 1
        have S2 := blk_cell HS2.out 2
        have S3 := blk_cell HS2.out 3
        have S4 := blk_cell HS2.out 4
        have S5 := blk_cell HS2.out 5
        have S6 := blk_cell HS2.out 6
        have S7 := blk_cell HS2.out 7
        go_wp2_with (fail)
        refine (merkhetref01_May.calls k y0 y1 y2 y3 y4 y5 y6 y7 false _ HM2.out).mono ?_
        rintro e w3 ⟨rfl, hb⟩
        have HB3 := Aside0.mk hb
        have HC3 := Aside0.mk (blk_below HC2.out hb)
        have HS3 := Aside0.mk (blk_below HS2.out hb)
        clear hb S0 S1 S2 S3 S4 S5 S6 S7
        have D6 := blk_cell HC3.out 6
        have D7 := blk_cell HC3.out 7
        have E6 := blk_cell HS3.out 6
        have E7 := blk_cell HS3.out 7
        go_wp2_with (fail)
        exact bodyPost_ret (v := .tuple #[.int .i64 0, .int .i64 0, .bool false]) (by simp [results, Try.results36, go_sem]) rfl ⟨rfl, below_step (below_step HBC.out HB2.out) HB3.out⟩
      | true =>
        have he := Option.some.inj (show some (wrap64 (y6 - x6), wrap64 (wrap64 (wrap64 (x6 + x7) - y6) - y7), true) = some (r1, r2, r3) from HH2.out)
        obtain ⟨rfl, rfl, rfl⟩ := by simpa only [Prod.mk.injEq] using he
        clear he HH2
        go_wp2_with (fail)
        refine (merkhetref01_May.calls k x0 x1 x2 x3 x4 x5 x6 x7 true _ HM.out).mono ?_
        rintro e w2 ⟨rfl, hb⟩
        have HB2 := Aside0.mk hb
        have HC2 := Aside0.mk (blk_below HC.out hb)
        have HS2 := Aside0.mk (blk_below HS.out hb)
        clear hb C0 C1 C2 C3 C4 C5 C6 C7
        have S0 := blk_cell HS2.out 0
        have S1 := blk_cell HS2.out 1
        have S2 := blk_cell HS2.out 2
        have S3 := blk_cell HS2.out 3
        have S4 := blk_cell HS2.out 4
        have S5 := blk_cell HS2.out 5
        have S6 := blk_cell HS2.out 6
        have S7 := blk_cell HS2.out 7
        go_wp2_with (fail)
        refine (merkhetref01_May.calls k y0 y1 y2 y3 y4 y5 y6 y7 true _ HM2.out).mono ?_
        rintro e w3 ⟨rfl, hb⟩
        have HB3 := Aside0.mk hb
        have HC3 := Aside0.mk (blk_below HC2.out hb)
        have HS3 := Aside0.mk (blk_below HS2.out hb)
        clear hb S0 S1 S2 S3 S4 S5 S6 S7
        have D6 := blk_cell HC3.out 6
        have D7 := blk_cell HC3.out 7
        have E6 := blk_cell HS3.out 6
        have E7 := blk_cell HS3.out 7
        go_wp2_with (fail)
        go_quiet (fail)
        go_wp2_with (fail)
        exact bodyPost_ret (v := .tuple #[.int .i64 (wrap64 (y6 - x6)), .int .i64 (wrap64 (wrap64 (wrap64 (x6 + x7) - y6) - y7)), .bool true]) (by simp [results, Try.results36, go_sem]) rfl ⟨rfl, pw_below_drewN (below_step (below_step HBC.out HB2.out) HB3.out) _⟩


/-! ### rpc_Within: function 37 -/
def rpc_Within.f (k : Nat) (l0 : List (S37)) (a1_0 : Int) (a1_1 : Int) : Option (Bool) := (rpc_Gaps.f k l0 a1_0 a1_1).bind fun bt124 => (if bt124.2.2 = true then (if bt124.1 ≥ 0 then (some (decide (bt124.2.1 ≥ 0))) else (some false)) else (some false))
theorem rpc_Within.mono : ∀ a0 a1 a2 k, LeO (rpc_Within.f k a0 a1 a2) (rpc_Within.f (k + 1) a0 a1 a2) := by
  intro a0 a1 a2 k
  unfold rpc_Within.f
  repeat' first
      | (with_reducible exact rpc_Gaps.mono _ _ _ _)
      | (with_reducible exact LeO.refl _)
      | (with_reducible exact LeO.none _)
      | (with_reducible refine LeO.ite ?_ ?_)
      | (with_reducible refine LeO.bind ?_ (fun _ => ?_))
      | exact rpc_Gaps.mono _ _ _ _
      | exact LeO.none _
      | refine LeO.ite ?_ ?_
      | refine LeO.bind ?_ (fun _ => ?_)
set_option maxHeartbeats 8000000 in
set_option maxRecDepth 100000 in
theorem rpc_Within.calls (k : Nat) (A0 : Option Addr) (c0 : Nat) (l0 : List (S37)) (a1_0 : Int) (a1_1 : Int) (r : Bool) (w : World) (hr0 : Kd.C k37 w A0 l0.length l0) (hc0 : l0.length ≤ c0) (h : rpc_Within.f k l0 a1_0 a1_1 = some r) :
    Calls Try.prog 37 #[.slice A0 l0.length c0, .agg #[.int .i64 a1_0, .int .i64 a1_1]] w fun e w' => e = .returned (.bool r) ∧ Below w.heap.size w w' := by
  have hu46 := Try.underlying46
  have HR0 := Aside0.mk hr0
  have HC0 := Aside0.mk hc0
  clear hr0 hc0
  have HB := Aside0.mk (Below.refl w.heap.size w)
  have H : ((rpc_Gaps.f k l0 a1_0 a1_1).bind fun bt124 => (if bt124.2.2 = true then (if bt124.1 ≥ 0 then (some (decide (bt124.2.1 ≥ 0))) else (some false)) else (some false))) = some r := h
  clear h
  replace H := Option.bind_eq_some_iff.mp H
  obtain ⟨⟨t124, t125, t126⟩, A30, H⟩ := H
  replace H : (if t126 = true then (if t124 ≥ 0 then (some (decide (t125 ≥ 0))) else (some false)) else (some false)) = some r := H
  have A3 := Aside0.mk A30
  clear A30
  by_cases c4 : t126 = true
  · subst c4
    have H1 : (if t124 ≥ 0 then (some (decide (t125 ≥ 0))) else (some false)) = some r := by rw [if_pos rfl] at H; exact H
    clear H
    have H := H1
    clear H1
    by_cases c5 : t124 ≥ 0
    · rw [if_pos c5] at H
      have c5b0 : decide (0 ≤ t124) = true := decide_eq_true c5
      clear c5
      obtain rfl := Option.some.inj H
      go_enter Try.func37, Try.ntmps37
      go_wp2_with (first | ((with_reducible refine gate_dst (N := 3) rfl ?_); refine box_event ?hg (N := 3) ?hd (cs := #[.int .i64 a1_0, .int .i64 a1_1]) (t := 46) ?hr ?_; (case hd => rfl); (case hg => rfl); (case hr => first | (go_simp; done) | (go_simp; rfl)); intro gb123 hg w6 hbox hb; have n0_ := Aside0.mk (below_step (by repeat (first | (with_reducible first | exact HB.out | apply below_alloc | apply pw_below_drewN | apply below_drew1) | exact HB.out)) hb); have n1_ := Aside0.mk (hbox); have n2_ := Aside0.mk ((by rw [hg]; exact (below_size (by repeat (first | (with_reducible first | exact HB.out | apply below_alloc | apply pw_below_drewN | apply below_drew1) | exact HB.out))) : w.heap.size ≤ gb123)); have n3_ := Aside0.mk ((by rw [hg]; exact (below_size (by repeat (first | (with_reducible first | exact HB.out | apply below_alloc | apply pw_below_drewN | apply below_drew1) | exact HB.out))) : w.heap.size ≤ gb123)); clear HB; have HB := n0_; have BK123 := n1_; have GW123 := n2_; have GE123 := n3_; clear n0_ n1_ n2_ n3_; clear hb hbox hg; have hcz7_0 : w6.cell? ⟨gb123, 0, none⟩ = some (.int .i64 a1_0) := (blk_cell BK123.out 0).trans rfl; have hcz7_1 : w6.cell? ⟨gb123, 1, none⟩ = some (.int .i64 a1_1) := (blk_cell BK123.out 1).trans rfl; have hfz7_0 := blk_frozen BK123.out 0; have hfz7_1 := blk_frozen BK123.out 1) | ((with_reducible refine gate_callee (f := 35) rfl ?_); refine goesL_ (some 11) rfl rfl Try.func35 (by kernel_rfl) rfl #[.slice A0 l0.length c0, .agg #[.int .i64 a1_0, .int .i64 a1_1]] rfl (by (try simp only [List.map_toArray, List.map_cons, List.map_nil]); first | done | rfl | (simp only [List.length_drop, List.length_take]; rfl)) ?_; (with_reducible refine (rpc_Gaps.calls k _ _ l0 a1_0 a1_1 t124 t125 true _ ?side1 ?side2 A3.out).mono ?_); (case side1 => repeat (first | exact (Kd.C_below HR0.out HB.out) | (with_reducible refine Kd.C_alloc ?_ _) | (with_reducible refine Kd.C_drewN ?_ _) | (with_reducible refine Kd.C_drew ?_))); (case side2 => exact HC0.out); rintro e w8 ⟨rfl, hb⟩; refine ⟨_, rfl, ?_⟩; have n0_ := Aside0.mk (blk_below (g := gb123) (o := .cells #[.int .i64 a1_0, .int .i64 a1_1] 46 (0, 0)) (by (with_reducible repeat (first | refine blk_drewN ?_ _ | refine blk_drew ?_ | refine blk_alloc ?_ _)); exact BK123.out) hb); have n1_ := Aside0.mk (below_step (by repeat (first | (with_reducible first | exact HB.out | apply below_alloc | apply pw_below_drewN | apply below_drew1 | refine below_set ?_ GE123.out) | exact HB.out)) hb); clear BK123; clear HB; have BK123 := n0_; have HB := n1_; clear n0_ n1_; (try clear hb); (try clear hb2); (try clear hk); (try clear hi)))
      go_ret
      exact ⟨by first | rfl | (simp [errW_none, errW_some] <;> rfl) | (simp [*, errW_none, errW_some] <;> rfl), by repeat (first | (with_reducible first | exact HB.out | apply below_alloc | apply pw_below_drewN | apply below_drew1 | refine below_set ?_ GE123.out) | exact HB.out)⟩
    · rw [if_neg c5] at H
      have c5b0 : decide (0 ≤ t124) = false := decide_eq_false c5
      clear c5
      obtain rfl := Option.some.inj H
      go_enter Try.func37, Try.ntmps37
      go_wp2_with (first | ((with_reducible refine gate_dst (N := 3) rfl ?_); refine box_event ?hg (N := 3) ?hd (cs := #[.int .i64 a1_0, .int .i64 a1_1]) (t := 46) ?hr ?_; (case hd => rfl); (case hg => rfl); (case hr => first | (go_simp; done) | (go_simp; rfl)); intro gb123 hg w9 hbox hb; have n0_ := Aside0.mk (below_step (by repeat (first | (with_reducible first | exact HB.out | apply below_alloc | apply pw_below_drewN | apply below_drew1) | exact HB.out)) hb); have n1_ := Aside0.mk (hbox); have n2_ := Aside0.mk ((by rw [hg]; exact (below_size (by repeat (first | (with_reducible first | exact HB.out | apply below_alloc | apply pw_below_drewN | apply below_drew1) | exact HB.out))) : w.heap.size ≤ gb123)); have n3_ := Aside0.mk ((by rw [hg]; exact (below_size (by repeat (first | (with_reducible first | exact HB.out | apply below_alloc | apply pw_below_drewN | apply below_drew1) | exact HB.out))) : w.heap.size ≤ gb123)); clear HB; have HB := n0_; have BK123 := n1_; have GW123 := n2_; have GE123 := n3_; clear n0_ n1_ n2_ n3_; clear hb hbox hg; have hcz10_0 : w9.cell? ⟨gb123, 0, none⟩ = some (.int .i64 a1_0) := (blk_cell BK123.out 0).trans rfl; have hcz10_1 : w9.cell? ⟨gb123, 1, none⟩ = some (.int .i64 a1_1) := (blk_cell BK123.out 1).trans rfl; have hfz10_0 := blk_frozen BK123.out 0; have hfz10_1 := blk_frozen BK123.out 1) | ((with_reducible refine gate_callee (f := 35) rfl ?_); refine goesL_ (some 11) rfl rfl Try.func35 (by kernel_rfl) rfl #[.slice A0 l0.length c0, .agg #[.int .i64 a1_0, .int .i64 a1_1]] rfl (by (try simp only [List.map_toArray, List.map_cons, List.map_nil]); first | done | rfl | (simp only [List.length_drop, List.length_take]; rfl)) ?_; (with_reducible refine (rpc_Gaps.calls k _ _ l0 a1_0 a1_1 t124 t125 true _ ?side1 ?side2 A3.out).mono ?_); (case side1 => repeat (first | exact (Kd.C_below HR0.out HB.out) | (with_reducible refine Kd.C_alloc ?_ _) | (with_reducible refine Kd.C_drewN ?_ _) | (with_reducible refine Kd.C_drew ?_))); (case side2 => exact HC0.out); rintro e w11 ⟨rfl, hb⟩; refine ⟨_, rfl, ?_⟩; have n0_ := Aside0.mk (blk_below (g := gb123) (o := .cells #[.int .i64 a1_0, .int .i64 a1_1] 46 (0, 0)) (by (with_reducible repeat (first | refine blk_drewN ?_ _ | refine blk_drew ?_ | refine blk_alloc ?_ _)); exact BK123.out) hb); have n1_ := Aside0.mk (below_step (by repeat (first | (with_reducible first | exact HB.out | apply below_alloc | apply pw_below_drewN | apply below_drew1 | refine below_set ?_ GE123.out) | exact HB.out)) hb); clear BK123; clear HB; have BK123 := n0_; have HB := n1_; clear n0_ n1_; (try clear hb); (try clear hb2); (try clear hk); (try clear hi)))
      go_ret
      exact ⟨by first | rfl | (simp [errW_none, errW_some] <;> rfl) | (simp [*, errW_none, errW_some] <;> rfl), by repeat (first | (with_reducible first | exact HB.out | apply below_alloc | apply pw_below_drewN | apply below_drew1 | refine below_set ?_ GE123.out) | exact HB.out)⟩
  · replace c4 := Bool.eq_false_iff.mpr c4
    subst c4
    have H1 : (some false) = some r := by rw [if_neg (show ¬ (false = true) by decide)] at H; exact H
    clear H
    have H := H1
    clear H1
    obtain rfl := Option.some.inj H
    go_enter Try.func37, Try.ntmps37
    go_wp2_with (first | ((with_reducible refine gate_dst (N := 3) rfl ?_); refine box_event ?hg (N := 3) ?hd (cs := #[.int .i64 a1_0, .int .i64 a1_1]) (t := 46) ?hr ?_; (case hd => rfl); (case hg => rfl); (case hr => first | (go_simp; done) | (go_simp; rfl)); intro gb123 hg w12 hbox hb; have n0_ := Aside0.mk (below_step (by repeat (first | (with_reducible first | exact HB.out | apply below_alloc | apply pw_below_drewN | apply below_drew1) | exact HB.out)) hb); have n1_ := Aside0.mk (hbox); have n2_ := Aside0.mk ((by rw [hg]; exact (below_size (by repeat (first | (with_reducible first | exact HB.out | apply below_alloc | apply pw_below_drewN | apply below_drew1) | exact HB.out))) : w.heap.size ≤ gb123)); have n3_ := Aside0.mk ((by rw [hg]; exact (below_size (by repeat (first | (with_reducible first | exact HB.out | apply below_alloc | apply pw_below_drewN | apply below_drew1) | exact HB.out))) : w.heap.size ≤ gb123)); clear HB; have HB := n0_; have BK123 := n1_; have GW123 := n2_; have GE123 := n3_; clear n0_ n1_ n2_ n3_; clear hb hbox hg; have hcz13_0 : w12.cell? ⟨gb123, 0, none⟩ = some (.int .i64 a1_0) := (blk_cell BK123.out 0).trans rfl; have hcz13_1 : w12.cell? ⟨gb123, 1, none⟩ = some (.int .i64 a1_1) := (blk_cell BK123.out 1).trans rfl; have hfz13_0 := blk_frozen BK123.out 0; have hfz13_1 := blk_frozen BK123.out 1) | ((with_reducible refine gate_callee (f := 35) rfl ?_); refine goesL_ (some 11) rfl rfl Try.func35 (by kernel_rfl) rfl #[.slice A0 l0.length c0, .agg #[.int .i64 a1_0, .int .i64 a1_1]] rfl (by (try simp only [List.map_toArray, List.map_cons, List.map_nil]); first | done | rfl | (simp only [List.length_drop, List.length_take]; rfl)) ?_; (with_reducible refine (rpc_Gaps.calls k _ _ l0 a1_0 a1_1 t124 t125 false _ ?side1 ?side2 A3.out).mono ?_); (case side1 => repeat (first | exact (Kd.C_below HR0.out HB.out) | (with_reducible refine Kd.C_alloc ?_ _) | (with_reducible refine Kd.C_drewN ?_ _) | (with_reducible refine Kd.C_drew ?_))); (case side2 => exact HC0.out); rintro e w14 ⟨rfl, hb⟩; refine ⟨_, rfl, ?_⟩; have n0_ := Aside0.mk (blk_below (g := gb123) (o := .cells #[.int .i64 a1_0, .int .i64 a1_1] 46 (0, 0)) (by (with_reducible repeat (first | refine blk_drewN ?_ _ | refine blk_drew ?_ | refine blk_alloc ?_ _)); exact BK123.out) hb); have n1_ := Aside0.mk (below_step (by repeat (first | (with_reducible first | exact HB.out | apply below_alloc | apply pw_below_drewN | apply below_drew1 | refine below_set ?_ GE123.out) | exact HB.out)) hb); clear BK123; clear HB; have BK123 := n0_; have HB := n1_; clear n0_ n1_; (try clear hb); (try clear hb2); (try clear hk); (try clear hi)))
    go_ret
    exact ⟨by first | rfl | (simp [errW_none, errW_some] <;> rfl) | (simp [*, errW_none, errW_some] <;> rfl), by repeat (first | (with_reducible first | exact HB.out | apply below_alloc | apply pw_below_drewN | apply below_drew1 | refine below_set ?_ GE123.out) | exact HB.out)⟩

/-! ### merkhetlaw12_RpcGaps: function 12 -/
def merkhetlaw12_RpcGaps.f (k : Nat) (l0 : List (S37)) (a1_0 : Int) (a1_1 : Int) : Option (Bool) := (merkhetlaw04_Great.f k l0).bind fun t128 => (if t128 = true then ((merkhetlaw12_fixed.f k).bind fun t129 => (some t129)) else ((rpc_Gaps.f k l0 a1_0 a1_1).bind fun bt130 => ((merkhetref12_Gaps.f k l0 a1_0 a1_1).bind fun bt133 => ((merkhetlaw12_fixed.f k).bind fun t136 => (if t136 = true then (if bt130.1 = bt133.1 then (if bt130.2.1 = bt133.2.1 then (if (bt130.2.2 == bt133.2.2) = true then ((rpc_Within.f k l0 a1_0 a1_1).bind fun t137 => (if bt133.2.2 = true then (if bt133.1 ≥ 0 then (some (t137 == (decide (bt133.2.1 ≥ 0)))) else (some (t137 == false))) else (some (t137 == false)))) else (some false)) else (some false)) else (some false)) else (some false))))))
theorem merkhetlaw12_RpcGaps.mono : ∀ a0 a1 a2 k, LeO (merkhetlaw12_RpcGaps.f k a0 a1 a2) (merkhetlaw12_RpcGaps.f (k + 1) a0 a1 a2) := by
  intro a0 a1 a2 k
  unfold merkhetlaw12_RpcGaps.f
  repeat' first
      | (with_reducible exact merkhetlaw04_Great.mono _ _)
      | (with_reducible exact merkhetlaw12_fixed.mono _)
      | (with_reducible exact merkhetref12_Gaps.mono _ _ _ _)
      | (with_reducible exact rpc_Gaps.mono _ _ _ _)
      | (with_reducible exact rpc_Within.mono _ _ _ _)
      | (with_reducible exact LeO.refl _)
      | (with_reducible exact LeO.none _)
      | (with_reducible refine LeO.ite ?_ ?_)
      | (with_reducible refine LeO.bind ?_ (fun _ => ?_))
      | exact merkhetlaw04_Great.mono _ _
      | exact merkhetlaw12_fixed.mono _
      | exact merkhetref12_Gaps.mono _ _ _ _
      | exact rpc_Gaps.mono _ _ _ _
      | exact rpc_Within.mono _ _ _ _
      | exact LeO.none _
      | refine LeO.ite ?_ ?_
      | refine LeO.bind ?_ (fun _ => ?_)
set_option maxHeartbeats 8000000 in
set_option maxRecDepth 100000 in
theorem merkhetlaw12_RpcGaps.calls (k : Nat) (A0 : Option Addr) (c0 : Nat) (l0 : List (S37)) (a1_0 : Int) (a1_1 : Int) (r : Bool) (w : World) (hr0 : Kd.C k37 w A0 l0.length l0) (hc0 : l0.length ≤ c0) (h : merkhetlaw12_RpcGaps.f k l0 a1_0 a1_1 = some r) :
    Calls Try.prog 12 #[.slice A0 l0.length c0, .agg #[.int .i64 a1_0, .int .i64 a1_1]] w fun e w' => e = .returned (.bool r) ∧ Below w.heap.size w w' := by
  have hu46 := Try.underlying46
  have HR0 := Aside0.mk hr0
  have HC0 := Aside0.mk hc0
  clear hr0 hc0
  have HB := Aside0.mk (Below.refl w.heap.size w)
  have H : ((merkhetlaw04_Great.f k l0).bind fun t128 => (if t128 = true then ((merkhetlaw12_fixed.f k).bind fun t129 => (some t129)) else ((rpc_Gaps.f k l0 a1_0 a1_1).bind fun bt130 => ((merkhetref12_Gaps.f k l0 a1_0 a1_1).bind fun bt133 => ((merkhetlaw12_fixed.f k).bind fun t136 => (if t136 = true then (if bt130.1 = bt133.1 then (if bt130.2.1 = bt133.2.1 then (if (bt130.2.2 == bt133.2.2) = true then ((rpc_Within.f k l0 a1_0 a1_1).bind fun t137 => (if bt133.2.2 = true then (if bt133.1 ≥ 0 then (some (t137 == (decide (bt133.2.1 ≥ 0)))) else (some (t137 == false))) else (some (t137 == false)))) else (some false)) else (some false)) else (some false)) else (some false))))))) = some r := h
  clear h
  replace H := Option.bind_eq_some_iff.mp H
  obtain ⟨t128, A30, H⟩ := H
  replace H : (if t128 = true then ((merkhetlaw12_fixed.f k).bind fun t129 => (some t129)) else ((rpc_Gaps.f k l0 a1_0 a1_1).bind fun bt130 => ((merkhetref12_Gaps.f k l0 a1_0 a1_1).bind fun bt133 => ((merkhetlaw12_fixed.f k).bind fun t136 => (if t136 = true then (if bt130.1 = bt133.1 then (if bt130.2.1 = bt133.2.1 then (if (bt130.2.2 == bt133.2.2) = true then ((rpc_Within.f k l0 a1_0 a1_1).bind fun t137 => (if bt133.2.2 = true then (if bt133.1 ≥ 0 then (some (t137 == (decide (bt133.2.1 ≥ 0)))) else (some (t137 == false))) else (some (t137 == false)))) else (some false)) else (some false)) else (some false)) else (some false)))))) = some r := H
  have A3 := Aside0.mk A30
  clear A30
  by_cases c4 : t128 = true
  · subst c4
    have H1 : ((merkhetlaw12_fixed.f k).bind fun t129 => (some t129)) = some r := by rw [if_pos rfl] at H; exact H
    clear H
    have H := H1
    clear H1
    replace H := Option.bind_eq_some_iff.mp H
    obtain ⟨t129, A50, H⟩ := H
    replace H : (some t129) = some r := H
    have A5 := Aside0.mk A50
    clear A50
    obtain rfl := Option.some.inj H
    go_enter Try.func12, Try.ntmps12
    go_wp2_with (first | ((with_reducible refine gate_dst (N := 3) rfl ?_); refine box_event ?hg (N := 3) ?hd (cs := #[.int .i64 a1_0, .int .i64 a1_1]) (t := 46) ?hr ?_; (case hd => rfl); (case hg => rfl); (case hr => first | (go_simp; done) | (go_simp; rfl)); intro gb127 hg w6 hbox hb; have n0_ := Aside0.mk (below_step (by repeat (first | (with_reducible first | exact HB.out | apply below_alloc | apply pw_below_drewN | apply below_drew1) | exact HB.out)) hb); have n1_ := Aside0.mk (hbox); have n2_ := Aside0.mk ((by rw [hg]; exact (below_size (by repeat (first | (with_reducible first | exact HB.out | apply below_alloc | apply pw_below_drewN | apply below_drew1) | exact HB.out))) : w.heap.size ≤ gb127)); have n3_ := Aside0.mk ((by rw [hg]; exact (below_size (by repeat (first | (with_reducible first | exact HB.out | apply below_alloc | apply pw_below_drewN | apply below_drew1) | exact HB.out))) : w.heap.size ≤ gb127)); clear HB; have HB := n0_; have BK127 := n1_; have GW127 := n2_; have GE127 := n3_; clear n0_ n1_ n2_ n3_; clear hb hbox hg) | ((with_reducible refine gate_callee (f := 30) rfl ?_); refine goesL_ (some 12) rfl rfl Try.func30 (by kernel_rfl) rfl #[.slice A0 l0.length c0] rfl (by (try simp only [List.map_toArray, List.map_cons, List.map_nil]); first | done | rfl | (simp only [List.length_drop, List.length_take]; rfl)) ?_; (with_reducible refine (merkhetlaw04_Great.calls k _ _ l0 true _ ?side1 ?side2 A3.out).mono ?_); (case side1 => repeat (first | exact (Kd.C_below HR0.out HB.out) | (with_reducible refine Kd.C_alloc ?_ _) | (with_reducible refine Kd.C_drewN ?_ _) | (with_reducible refine Kd.C_drew ?_))); (case side2 => exact HC0.out); rintro e w7 ⟨rfl, hb⟩; refine ⟨_, rfl, ?_⟩; have n0_ := Aside0.mk (blk_below (g := gb127) (o := .cells #[.int .i64 a1_0, .int .i64 a1_1] 46 (0, 0)) (by (with_reducible repeat (first | refine blk_drewN ?_ _ | refine blk_drew ?_ | refine blk_alloc ?_ _)); exact BK127.out) hb); have n1_ := Aside0.mk (below_step (by repeat (first | (with_reducible first | exact HB.out | apply below_alloc | apply pw_below_drewN | apply below_drew1 | refine below_set ?_ GE127.out) | exact HB.out)) hb); clear BK127; clear HB; have BK127 := n0_; have HB := n1_; clear n0_ n1_; (try clear hb); (try clear hb2); (try clear hk); (try clear hi)) | ((with_reducible refine gate_callee (f := 31) rfl ?_); refine goesL_ (some 13) rfl rfl Try.func31 (by kernel_rfl) rfl #[] rfl (by (try simp only [List.map_toArray, List.map_cons, List.map_nil]); first | done | rfl | (simp only [List.length_drop, List.length_take]; rfl)) ?_; (with_reducible refine (merkhetlaw12_fixed.calls k  t129 _ A5.out).mono ?_); rintro e w8 ⟨rfl, hb⟩; refine ⟨_, rfl, ?_⟩; have n0_ := Aside0.mk (blk_below (g := gb127) (o := .cells #[.int .i64 a1_0, .int .i64 a1_1] 46 (0, 0)) (by (with_reducible repeat (first | refine blk_drewN ?_ _ | refine blk_drew ?_ | refine blk_alloc ?_ _)); exact BK127.out) hb); have n1_ := Aside0.mk (below_step (by repeat (first | (with_reducible first | exact HB.out | apply below_alloc | apply pw_below_drewN | apply below_drew1 | refine below_set ?_ GE127.out) | exact HB.out)) hb); clear BK127; clear HB; have BK127 := n0_; have HB := n1_; clear n0_ n1_; (try clear hb); (try clear hb2); (try clear hk); (try clear hi)))
    go_ret
    exact ⟨by first | rfl | (simp [errW_none, errW_some] <;> rfl) | (simp [*, errW_none, errW_some] <;> rfl), by repeat (first | (with_reducible first | exact HB.out | apply below_alloc | apply pw_below_drewN | apply below_drew1 | refine below_set ?_ GE127.out) | exact HB.out)⟩
  · replace c4 := Bool.eq_false_iff.mpr c4
    subst c4
    have H1 : ((rpc_Gaps.f k l0 a1_0 a1_1).bind fun bt130 => ((merkhetref12_Gaps.f k l0 a1_0 a1_1).bind fun bt133 => ((merkhetlaw12_fixed.f k).bind fun t136 => (if t136 = true then (if bt130.1 = bt133.1 then (if bt130.2.1 = bt133.2.1 then (if (bt130.2.2 == bt133.2.2) = true then ((rpc_Within.f k l0 a1_0 a1_1).bind fun t137 => (if bt133.2.2 = true then (if bt133.1 ≥ 0 then (some (t137 == (decide (bt133.2.1 ≥ 0)))) else (some (t137 == false))) else (some (t137 == false)))) else (some false)) else (some false)) else (some false)) else (some false))))) = some r := by rw [if_neg (show ¬ (false = true) by decide)] at H; exact H
    clear H
    have H := H1
    clear H1
    replace H := Option.bind_eq_some_iff.mp H
    obtain ⟨⟨t130, t131, t132⟩, A90, H⟩ := H
    replace H : ((merkhetref12_Gaps.f k l0 a1_0 a1_1).bind fun bt133 => ((merkhetlaw12_fixed.f k).bind fun t136 => (if t136 = true then (if t130 = bt133.1 then (if t131 = bt133.2.1 then (if (t132 == bt133.2.2) = true then ((rpc_Within.f k l0 a1_0 a1_1).bind fun t137 => (if bt133.2.2 = true then (if bt133.1 ≥ 0 then (some (t137 == (decide (bt133.2.1 ≥ 0)))) else (some (t137 == false))) else (some (t137 == false)))) else (some false)) else (some false)) else (some false)) else (some false)))) = some r := H
    have A9 := Aside0.mk A90
    clear A90
    replace H := Option.bind_eq_some_iff.mp H
    obtain ⟨⟨t133, t134, t135⟩, A100, H⟩ := H
    replace H : ((merkhetlaw12_fixed.f k).bind fun t136 => (if t136 = true then (if t130 = t133 then (if t131 = t134 then (if (t132 == t135) = true then ((rpc_Within.f k l0 a1_0 a1_1).bind fun t137 => (if t135 = true then (if t133 ≥ 0 then (some (t137 == (decide (t134 ≥ 0)))) else (some (t137 == false))) else (some (t137 == false)))) else (some false)) else (some false)) else (some false)) else (some false))) = some r := H
    have A10 := Aside0.mk A100
    clear A100
    replace H := Option.bind_eq_some_iff.mp H
    obtain ⟨t136, A110, H⟩ := H
    replace H : (if t136 = true then (if t130 = t133 then (if t131 = t134 then (if (t132 == t135) = true then ((rpc_Within.f k l0 a1_0 a1_1).bind fun t137 => (if t135 = true then (if t133 ≥ 0 then (some (t137 == (decide (t134 ≥ 0)))) else (some (t137 == false))) else (some (t137 == false)))) else (some false)) else (some false)) else (some false)) else (some false)) = some r := H
    have A11 := Aside0.mk A110
    clear A110
    by_cases c12 : t136 = true
    · subst c12
      have H1 : (if t130 = t133 then (if t131 = t134 then (if (t132 == t135) = true then ((rpc_Within.f k l0 a1_0 a1_1).bind fun t137 => (if t135 = true then (if t133 ≥ 0 then (some (t137 == (decide (t134 ≥ 0)))) else (some (t137 == false))) else (some (t137 == false)))) else (some false)) else (some false)) else (some false)) = some r := by rw [if_pos rfl] at H; exact H
      clear H
      have H := H1
      clear H1
      by_cases c13 : t130 = t133
      · rw [if_pos c13] at H
        have c13b0 : (t130 == t133) = true := beq_iff_eq.mpr c13
        have c13b1 : (t130 != t133) = false := bne_eq_false_iff_eq.mpr c13
        clear c13
        by_cases c14 : t131 = t134
        · rw [if_pos c14] at H
          have c14b0 : (t131 == t134) = true := beq_iff_eq.mpr c14
          have c14b1 : (t131 != t134) = false := bne_eq_false_iff_eq.mpr c14
          clear c14
          by_cases c15 : (t132 == t135) = true
          · rw [if_pos c15] at H
            have c15b0 : (t132 == t135) = true := c15
            (try (have c15b1 : decide (t132 = t135) = true := by simpa using c15))
            (try (have c15b2 : (t132 == t135) = true := by simpa using c15))
            clear c15
            replace H := Option.bind_eq_some_iff.mp H
            obtain ⟨t137, A160, H⟩ := H
            replace H : (if t135 = true then (if t133 ≥ 0 then (some (t137 == (decide (t134 ≥ 0)))) else (some (t137 == false))) else (some (t137 == false))) = some r := H
            have A16 := Aside0.mk A160
            clear A160
            by_cases c17 : t135 = true
            · subst c17
              have H1 : (if t133 ≥ 0 then (some (t137 == (decide (t134 ≥ 0)))) else (some (t137 == false))) = some r := by rw [if_pos rfl] at H; exact H
              clear H
              have H := H1
              clear H1
              by_cases c18 : t133 ≥ 0
              · rw [if_pos c18] at H
                have c18b0 : decide (0 ≤ t133) = true := decide_eq_true c18
                clear c18
                obtain rfl := Option.some.inj H
                go_enter Try.func12, Try.ntmps12
                go_wp2_with (first | ((with_reducible refine gate_dst (N := 3) rfl ?_); refine box_event ?hg (N := 3) ?hd (cs := #[.int .i64 a1_0, .int .i64 a1_1]) (t := 46) ?hr ?_; (case hd => rfl); (case hg => rfl); (case hr => first | (go_simp; done) | (go_simp; rfl)); intro gb127 hg w19 hbox hb; have n0_ := Aside0.mk (below_step (by repeat (first | (with_reducible first | exact HB.out | apply below_alloc | apply pw_below_drewN | apply below_drew1) | exact HB.out)) hb); have n1_ := Aside0.mk (hbox); have n2_ := Aside0.mk ((by rw [hg]; exact (below_size (by repeat (first | (with_reducible first | exact HB.out | apply below_alloc | apply pw_below_drewN | apply below_drew1) | exact HB.out))) : w.heap.size ≤ gb127)); have n3_ := Aside0.mk ((by rw [hg]; exact (below_size (by repeat (first | (with_reducible first | exact HB.out | apply below_alloc | apply pw_below_drewN | apply below_drew1) | exact HB.out))) : w.heap.size ≤ gb127)); clear HB; have HB := n0_; have BK127 := n1_; have GW127 := n2_; have GE127 := n3_; clear n0_ n1_ n2_ n3_; clear hb hbox hg) | ((with_reducible refine gate_callee (f := 30) rfl ?_); refine goesL_ (some 12) rfl rfl Try.func30 (by kernel_rfl) rfl #[.slice A0 l0.length c0] rfl (by (try simp only [List.map_toArray, List.map_cons, List.map_nil]); first | done | rfl | (simp only [List.length_drop, List.length_take]; rfl)) ?_; (with_reducible refine (merkhetlaw04_Great.calls k _ _ l0 false _ ?side1 ?side2 A3.out).mono ?_); (case side1 => repeat (first | exact (Kd.C_below HR0.out HB.out) | (with_reducible refine Kd.C_alloc ?_ _) | (with_reducible refine Kd.C_drewN ?_ _) | (with_reducible refine Kd.C_drew ?_))); (case side2 => exact HC0.out); rintro e w20 ⟨rfl, hb⟩; refine ⟨_, rfl, ?_⟩; have n0_ := Aside0.mk (blk_below (g := gb127) (o := .cells #[.int .i64 a1_0, .int .i64 a1_1] 46 (0, 0)) (by (with_reducible repeat (first | refine blk_drewN ?_ _ | refine blk_drew ?_ | refine blk_alloc ?_ _)); exact BK127.out) hb); have n1_ := Aside0.mk (below_step (by repeat (first | (with_reducible first | exact HB.out | apply below_alloc | apply pw_below_drewN | apply below_drew1 | refine below_set ?_ GE127.out) | exact HB.out)) hb); clear BK127; clear HB; have BK127 := n0_; have HB := n1_; clear n0_ n1_; (try clear hb); (try clear hb2); (try clear hk); (try clear hi); have hcz21_0 : w20.cell? ⟨gb127, 0, none⟩ = some (.int .i64 a1_0) := (blk_cell BK127.out 0).trans rfl; have hcz21_1 : w20.cell? ⟨gb127, 1, none⟩ = some (.int .i64 a1_1) := (blk_cell BK127.out 1).trans rfl; have hfz21_0 := blk_frozen BK127.out 0; have hfz21_1 := blk_frozen BK127.out 1) | ((with_reducible refine gate_callee (f := 35) rfl ?_); refine goesL_ (some 17) rfl rfl Try.func35 (by kernel_rfl) rfl #[.slice A0 l0.length c0, .agg #[.int .i64 a1_0, .int .i64 a1_1]] rfl (by (try simp only [List.map_toArray, List.map_cons, List.map_nil]); first | done | rfl | (simp only [List.length_drop, List.length_take]; rfl)) ?_; (with_reducible refine (rpc_Gaps.calls k _ _ l0 a1_0 a1_1 t130 t131 t132 _ ?side1 ?side2 A9.out).mono ?_); (case side1 => repeat (first | exact (Kd.C_below HR0.out HB.out) | (with_reducible refine Kd.C_alloc ?_ _) | (with_reducible refine Kd.C_drewN ?_ _) | (with_reducible refine Kd.C_drew ?_))); (case side2 => exact HC0.out); rintro e w22 ⟨rfl, hb⟩; refine ⟨_, rfl, ?_⟩; have n0_ := Aside0.mk (blk_below (g := gb127) (o := .cells #[.int .i64 a1_0, .int .i64 a1_1] 46 (0, 0)) (by (with_reducible repeat (first | refine blk_drewN ?_ _ | refine blk_drew ?_ | refine blk_alloc ?_ _)); exact BK127.out) hb); have n1_ := Aside0.mk (below_step (by repeat (first | (with_reducible first | exact HB.out | apply below_alloc | apply pw_below_drewN | apply below_drew1 | refine below_set ?_ GE127.out) | exact HB.out)) hb); clear BK127; clear HB; have BK127 := n0_; have HB := n1_; clear n0_ n1_; (try clear hb); (try clear hb2); (try clear hk); (try clear hi); have hcz23_0 : w22.cell? ⟨gb127, 0, none⟩ = some (.int .i64 a1_0) := (blk_cell BK127.out 0).trans rfl; have hcz23_1 : w22.cell? ⟨gb127, 1, none⟩ = some (.int .i64 a1_1) := (blk_cell BK127.out 1).trans rfl; have hfz23_0 := blk_frozen BK127.out 0; have hfz23_1 := blk_frozen BK127.out 1) | ((with_reducible refine gate_callee (f := 36) rfl ?_); refine goesL_ (some 24) rfl rfl Try.func36 (by kernel_rfl) rfl #[.slice A0 l0.length c0, .agg #[.int .i64 a1_0, .int .i64 a1_1]] rfl (by (try simp only [List.map_toArray, List.map_cons, List.map_nil]); first | done | rfl | (simp only [List.length_drop, List.length_take]; rfl)) ?_; (with_reducible refine (merkhetref12_Gaps.calls k _ _ l0 a1_0 a1_1 t133 t134 true _ ?side1 ?side2 A10.out).mono ?_); (case side1 => repeat (first | exact (Kd.C_below HR0.out HB.out) | (with_reducible refine Kd.C_alloc ?_ _) | (with_reducible refine Kd.C_drewN ?_ _) | (with_reducible refine Kd.C_drew ?_))); (case side2 => exact HC0.out); rintro e w24 ⟨rfl, hb⟩; refine ⟨_, rfl, ?_⟩; have n0_ := Aside0.mk (blk_below (g := gb127) (o := .cells #[.int .i64 a1_0, .int .i64 a1_1] 46 (0, 0)) (by (with_reducible repeat (first | refine blk_drewN ?_ _ | refine blk_drew ?_ | refine blk_alloc ?_ _)); exact BK127.out) hb); have n1_ := Aside0.mk (below_step (by repeat (first | (with_reducible first | exact HB.out | apply below_alloc | apply pw_below_drewN | apply below_drew1 | refine below_set ?_ GE127.out) | exact HB.out)) hb); clear BK127; clear HB; have BK127 := n0_; have HB := n1_; clear n0_ n1_; (try clear hb); (try clear hb2); (try clear hk); (try clear hi)) | ((with_reducible refine gate_callee (f := 31) rfl ?_); refine goesL_ (some 28) rfl rfl Try.func31 (by kernel_rfl) rfl #[] rfl (by (try simp only [List.map_toArray, List.map_cons, List.map_nil]); first | done | rfl | (simp only [List.length_drop, List.length_take]; rfl)) ?_; (with_reducible refine (merkhetlaw12_fixed.calls k  true _ A11.out).mono ?_); rintro e w25 ⟨rfl, hb⟩; refine ⟨_, rfl, ?_⟩; have n0_ := Aside0.mk (blk_below (g := gb127) (o := .cells #[.int .i64 a1_0, .int .i64 a1_1] 46 (0, 0)) (by (with_reducible repeat (first | refine blk_drewN ?_ _ | refine blk_drew ?_ | refine blk_alloc ?_ _)); exact BK127.out) hb); have n1_ := Aside0.mk (below_step (by repeat (first | (with_reducible first | exact HB.out | apply below_alloc | apply pw_below_drewN | apply below_drew1 | refine below_set ?_ GE127.out) | exact HB.out)) hb); clear BK127; clear HB; have BK127 := n0_; have HB := n1_; clear n0_ n1_; (try clear hb); (try clear hb2); (try clear hk); (try clear hi); have hcz26_0 : w25.cell? ⟨gb127, 0, none⟩ = some (.int .i64 a1_0) := (blk_cell BK127.out 0).trans rfl; have hcz26_1 : w25.cell? ⟨gb127, 1, none⟩ = some (.int .i64 a1_1) := (blk_cell BK127.out 1).trans rfl; have hfz26_0 := blk_frozen BK127.out 0; have hfz26_1 := blk_frozen BK127.out 1) | (go_at_call 37; (with_reducible refine (rpc_Within.calls k _ _ l0 a1_0 a1_1 t137 _ ?side1 ?side2 A16.out).mono ?_); (case side1 => repeat (first | exact (Kd.C_below HR0.out HB.out) | (with_reducible refine Kd.C_alloc ?_ _) | (with_reducible refine Kd.C_drewN ?_ _) | (with_reducible refine Kd.C_drew ?_))); (case side2 => exact HC0.out); rintro e w27 ⟨rfl, hb⟩; have n0_ := Aside0.mk (blk_below (g := gb127) (o := .cells #[.int .i64 a1_0, .int .i64 a1_1] 46 (0, 0)) (by (with_reducible repeat (first | refine blk_drewN ?_ _ | refine blk_drew ?_ | refine blk_alloc ?_ _)); exact BK127.out) hb); have n1_ := Aside0.mk (below_step (by repeat (first | (with_reducible first | exact HB.out | apply below_alloc | apply pw_below_drewN | apply below_drew1 | refine below_set ?_ GE127.out) | exact HB.out)) hb); clear BK127; clear HB; have BK127 := n0_; have HB := n1_; clear n0_ n1_; (try clear hb); (try clear hb2); (try clear hk); (try clear hi)))
                go_ret
                exact ⟨by first | rfl | (simp [errW_none, errW_some] <;> rfl) | (simp [*, errW_none, errW_some] <;> rfl), by repeat (first | (with_reducible first | exact HB.out | apply below_alloc | apply pw_below_drewN | apply below_drew1 | refine below_set ?_ GE127.out) | exact HB.out)⟩
              · rw [if_neg c18] at H
                have c18b0 : decide (0 ≤ t133) = false := decide_eq_false c18
                clear c18
                obtain rfl := Option.some.inj H
                go_enter Try.func12, Try.ntmps12
                go_wp2_with (first | ((with_reducible refine gate_dst (N := 3) rfl ?_); refine box_event ?hg (N := 3) ?hd (cs := #[.int .i64 a1_0, .int .i64 a1_1]) (t := 46) ?hr ?_; (case hd => rfl); (case hg => rfl); (case hr => first | (go_simp; done) | (go_simp; rfl)); intro gb127 hg w28 hbox hb; have n0_ := Aside0.mk (below_step (by repeat (first | (with_reducible first | exact HB.out | apply below_alloc | apply pw_below_drewN | apply below_drew1) | exact HB.out)) hb); have n1_ := Aside0.mk (hbox); have n2_ := Aside0.mk ((by rw [hg]; exact (below_size (by repeat (first | (with_reducible first | exact HB.out | apply below_alloc | apply pw_below_drewN | apply below_drew1) | exact HB.out))) : w.heap.size ≤ gb127)); have n3_ := Aside0.mk ((by rw [hg]; exact (below_size (by repeat (first | (with_reducible first | exact HB.out | apply below_alloc | apply pw_below_drewN | apply below_drew1) | exact HB.out))) : w.heap.size ≤ gb127)); clear HB; have HB := n0_; have BK127 := n1_; have GW127 := n2_; have GE127 := n3_; clear n0_ n1_ n2_ n3_; clear hb hbox hg) | ((with_reducible refine gate_callee (f := 30) rfl ?_); refine goesL_ (some 12) rfl rfl Try.func30 (by kernel_rfl) rfl #[.slice A0 l0.length c0] rfl (by (try simp only [List.map_toArray, List.map_cons, List.map_nil]); first | done | rfl | (simp only [List.length_drop, List.length_take]; rfl)) ?_; (with_reducible refine (merkhetlaw04_Great.calls k _ _ l0 false _ ?side1 ?side2 A3.out).mono ?_); (case side1 => repeat (first | exact (Kd.C_below HR0.out HB.out) | (with_reducible refine Kd.C_alloc ?_ _) | (with_reducible refine Kd.C_drewN ?_ _) | (with_reducible refine Kd.C_drew ?_))); (case side2 => exact HC0.out); rintro e w29 ⟨rfl, hb⟩; refine ⟨_, rfl, ?_⟩; have n0_ := Aside0.mk (blk_below (g := gb127) (o := .cells #[.int .i64 a1_0, .int .i64 a1_1] 46 (0, 0)) (by (with_reducible repeat (first | refine blk_drewN ?_ _ | refine blk_drew ?_ | refine blk_alloc ?_ _)); exact BK127.out) hb); have n1_ := Aside0.mk (below_step (by repeat (first | (with_reducible first | exact HB.out | apply below_alloc | apply pw_below_drewN | apply below_drew1 | refine below_set ?_ GE127.out) | exact HB.out)) hb); clear BK127; clear HB; have BK127 := n0_; have HB := n1_; clear n0_ n1_; (try clear hb); (try clear hb2); (try clear hk); (try clear hi); have hcz30_0 : w29.cell? ⟨gb127, 0, none⟩ = some (.int .i64 a1_0) := (blk_cell BK127.out 0).trans rfl; have hcz30_1 : w29.cell? ⟨gb127, 1, none⟩ = some (.int .i64 a1_1) := (blk_cell BK127.out 1).trans rfl; have hfz30_0 := blk_frozen BK127.out 0; have hfz30_1 := blk_frozen BK127.out 1) | ((with_reducible refine gate_callee (f := 35) rfl ?_); refine goesL_ (some 17) rfl rfl Try.func35 (by kernel_rfl) rfl #[.slice A0 l0.length c0, .agg #[.int .i64 a1_0, .int .i64 a1_1]] rfl (by (try simp only [List.map_toArray, List.map_cons, List.map_nil]); first | done | rfl | (simp only [List.length_drop, List.length_take]; rfl)) ?_; (with_reducible refine (rpc_Gaps.calls k _ _ l0 a1_0 a1_1 t130 t131 t132 _ ?side1 ?side2 A9.out).mono ?_); (case side1 => repeat (first | exact (Kd.C_below HR0.out HB.out) | (with_reducible refine Kd.C_alloc ?_ _) | (with_reducible refine Kd.C_drewN ?_ _) | (with_reducible refine Kd.C_drew ?_))); (case side2 => exact HC0.out); rintro e w31 ⟨rfl, hb⟩; refine ⟨_, rfl, ?_⟩; have n0_ := Aside0.mk (blk_below (g := gb127) (o := .cells #[.int .i64 a1_0, .int .i64 a1_1] 46 (0, 0)) (by (with_reducible repeat (first | refine blk_drewN ?_ _ | refine blk_drew ?_ | refine blk_alloc ?_ _)); exact BK127.out) hb); have n1_ := Aside0.mk (below_step (by repeat (first | (with_reducible first | exact HB.out | apply below_alloc | apply pw_below_drewN | apply below_drew1 | refine below_set ?_ GE127.out) | exact HB.out)) hb); clear BK127; clear HB; have BK127 := n0_; have HB := n1_; clear n0_ n1_; (try clear hb); (try clear hb2); (try clear hk); (try clear hi); have hcz32_0 : w31.cell? ⟨gb127, 0, none⟩ = some (.int .i64 a1_0) := (blk_cell BK127.out 0).trans rfl; have hcz32_1 : w31.cell? ⟨gb127, 1, none⟩ = some (.int .i64 a1_1) := (blk_cell BK127.out 1).trans rfl; have hfz32_0 := blk_frozen BK127.out 0; have hfz32_1 := blk_frozen BK127.out 1) | ((with_reducible refine gate_callee (f := 36) rfl ?_); refine goesL_ (some 24) rfl rfl Try.func36 (by kernel_rfl) rfl #[.slice A0 l0.length c0, .agg #[.int .i64 a1_0, .int .i64 a1_1]] rfl (by (try simp only [List.map_toArray, List.map_cons, List.map_nil]); first | done | rfl | (simp only [List.length_drop, List.length_take]; rfl)) ?_; (with_reducible refine (merkhetref12_Gaps.calls k _ _ l0 a1_0 a1_1 t133 t134 true _ ?side1 ?side2 A10.out).mono ?_); (case side1 => repeat (first | exact (Kd.C_below HR0.out HB.out) | (with_reducible refine Kd.C_alloc ?_ _) | (with_reducible refine Kd.C_drewN ?_ _) | (with_reducible refine Kd.C_drew ?_))); (case side2 => exact HC0.out); rintro e w33 ⟨rfl, hb⟩; refine ⟨_, rfl, ?_⟩; have n0_ := Aside0.mk (blk_below (g := gb127) (o := .cells #[.int .i64 a1_0, .int .i64 a1_1] 46 (0, 0)) (by (with_reducible repeat (first | refine blk_drewN ?_ _ | refine blk_drew ?_ | refine blk_alloc ?_ _)); exact BK127.out) hb); have n1_ := Aside0.mk (below_step (by repeat (first | (with_reducible first | exact HB.out | apply below_alloc | apply pw_below_drewN | apply below_drew1 | refine below_set ?_ GE127.out) | exact HB.out)) hb); clear BK127; clear HB; have BK127 := n0_; have HB := n1_; clear n0_ n1_; (try clear hb); (try clear hb2); (try clear hk); (try clear hi)) | ((with_reducible refine gate_callee (f := 31) rfl ?_); refine goesL_ (some 28) rfl rfl Try.func31 (by kernel_rfl) rfl #[] rfl (by (try simp only [List.map_toArray, List.map_cons, List.map_nil]); first | done | rfl | (simp only [List.length_drop, List.length_take]; rfl)) ?_; (with_reducible refine (merkhetlaw12_fixed.calls k  true _ A11.out).mono ?_); rintro e w34 ⟨rfl, hb⟩; refine ⟨_, rfl, ?_⟩; have n0_ := Aside0.mk (blk_below (g := gb127) (o := .cells #[.int .i64 a1_0, .int .i64 a1_1] 46 (0, 0)) (by (with_reducible repeat (first | refine blk_drewN ?_ _ | refine blk_drew ?_ | refine blk_alloc ?_ _)); exact BK127.out) hb); have n1_ := Aside0.mk (below_step (by repeat (first | (with_reducible first | exact HB.out | apply below_alloc | apply pw_below_drewN | apply below_drew1 | refine below_set ?_ GE127.out) | exact HB.out)) hb); clear BK127; clear HB; have BK127 := n0_; have HB := n1_; clear n0_ n1_; (try clear hb); (try clear hb2); (try clear hk); (try clear hi); have hcz35_0 : w34.cell? ⟨gb127, 0, none⟩ = some (.int .i64 a1_0) := (blk_cell BK127.out 0).trans rfl; have hcz35_1 : w34.cell? ⟨gb127, 1, none⟩ = some (.int .i64 a1_1) := (blk_cell BK127.out 1).trans rfl; have hfz35_0 := blk_frozen BK127.out 0; have hfz35_1 := blk_frozen BK127.out 1) | (go_at_call 37; (with_reducible refine (rpc_Within.calls k _ _ l0 a1_0 a1_1 t137 _ ?side1 ?side2 A16.out).mono ?_); (case side1 => repeat (first | exact (Kd.C_below HR0.out HB.out) | (with_reducible refine Kd.C_alloc ?_ _) | (with_reducible refine Kd.C_drewN ?_ _) | (with_reducible refine Kd.C_drew ?_))); (case side2 => exact HC0.out); rintro e w36 ⟨rfl, hb⟩; have n0_ := Aside0.mk (blk_below (g := gb127) (o := .cells #[.int .i64 a1_0, .int .i64 a1_1] 46 (0, 0)) (by (with_reducible repeat (first | refine blk_drewN ?_ _ | refine blk_drew ?_ | refine blk_alloc ?_ _)); exact BK127.out) hb); have n1_ := Aside0.mk (below_step (by repeat (first | (with_reducible first | exact HB.out | apply below_alloc | apply pw_below_drewN | apply below_drew1 | refine below_set ?_ GE127.out) | exact HB.out)) hb); clear BK127; clear HB; have BK127 := n0_; have HB := n1_; clear n0_ n1_; (try clear hb); (try clear hb2); (try clear hk); (try clear hi)))
                go_ret
                exact ⟨by first | rfl | (simp [errW_none, errW_some] <;> rfl) | (simp [*, errW_none, errW_some] <;> rfl), by repeat (first | (with_reducible first | exact HB.out | apply below_alloc | apply pw_below_drewN | apply below_drew1 | refine below_set ?_ GE127.out) | exact HB.out)⟩
            · replace c17 := Bool.eq_false_iff.mpr c17
              subst c17
              have H1 : (some (t137 == false)) = some r := by rw [if_neg (show ¬ (false = true) by decide)] at H; exact H
              clear H
              have H := H1
              clear H1
              obtain rfl := Option.some.inj H
              go_enter Try.func12, Try.ntmps12
              go_wp2_with (first | ((with_reducible refine gate_dst (N := 3) rfl ?_); refine box_event ?hg (N := 3) ?hd (cs := #[.int .i64 a1_0, .int .i64 a1_1]) (t := 46) ?hr ?_; (case hd => rfl); (case hg => rfl); (case hr => first | (go_simp; done) | (go_simp; rfl)); intro gb127 hg w37 hbox hb; have n0_ := Aside0.mk (below_step (by repeat (first | (with_reducible first | exact HB.out | apply below_alloc | apply pw_below_drewN | apply below_drew1) | exact HB.out)) hb); have n1_ := Aside0.mk (hbox); have n2_ := Aside0.mk ((by rw [hg]; exact (below_size (by repeat (first | (with_reducible first | exact HB.out | apply below_alloc | apply pw_below_drewN | apply below_drew1) | exact HB.out))) : w.heap.size ≤ gb127)); have n3_ := Aside0.mk ((by rw [hg]; exact (below_size (by repeat (first | (with_reducible first | exact HB.out | apply below_alloc | apply pw_below_drewN | apply below_drew1) | exact HB.out))) : w.heap.size ≤ gb127)); clear HB; have HB := n0_; have BK127 := n1_; have GW127 := n2_; have GE127 := n3_; clear n0_ n1_ n2_ n3_; clear hb hbox hg) | ((with_reducible refine gate_callee (f := 30) rfl ?_); refine goesL_ (some 12) rfl rfl Try.func30 (by kernel_rfl) rfl #[.slice A0 l0.length c0] rfl (by (try simp only [List.map_toArray, List.map_cons, List.map_nil]); first | done | rfl | (simp only [List.length_drop, List.length_take]; rfl)) ?_; (with_reducible refine (merkhetlaw04_Great.calls k _ _ l0 false _ ?side1 ?side2 A3.out).mono ?_); (case side1 => repeat (first | exact (Kd.C_below HR0.out HB.out) | (with_reducible refine Kd.C_alloc ?_ _) | (with_reducible refine Kd.C_drewN ?_ _) | (with_reducible refine Kd.C_drew ?_))); (case side2 => exact HC0.out); rintro e w38 ⟨rfl, hb⟩; refine ⟨_, rfl, ?_⟩; have n0_ := Aside0.mk (blk_below (g := gb127) (o := .cells #[.int .i64 a1_0, .int .i64 a1_1] 46 (0, 0)) (by (with_reducible repeat (first | refine blk_drewN ?_ _ | refine blk_drew ?_ | refine blk_alloc ?_ _)); exact BK127.out) hb); have n1_ := Aside0.mk (below_step (by repeat (first | (with_reducible first | exact HB.out | apply below_alloc | apply pw_below_drewN | apply below_drew1 | refine below_set ?_ GE127.out) | exact HB.out)) hb); clear BK127; clear HB; have BK127 := n0_; have HB := n1_; clear n0_ n1_; (try clear hb); (try clear hb2); (try clear hk); (try clear hi); have hcz39_0 : w38.cell? ⟨gb127, 0, none⟩ = some (.int .i64 a1_0) := (blk_cell BK127.out 0).trans rfl; have hcz39_1 : w38.cell? ⟨gb127, 1, none⟩ = some (.int .i64 a1_1) := (blk_cell BK127.out 1).trans rfl; have hfz39_0 := blk_frozen BK127.out 0; have hfz39_1 := blk_frozen BK127.out 1) | ((with_reducible refine gate_callee (f := 35) rfl ?_); refine goesL_ (some 17) rfl rfl Try.func35 (by kernel_rfl) rfl #[.slice A0 l0.length c0, .agg #[.int .i64 a1_0, .int .i64 a1_1]] rfl (by (try simp only [List.map_toArray, List.map_cons, List.map_nil]); first | done | rfl | (simp only [List.length_drop, List.length_take]; rfl)) ?_; (with_reducible refine (rpc_Gaps.calls k _ _ l0 a1_0 a1_1 t130 t131 t132 _ ?side1 ?side2 A9.out).mono ?_); (case side1 => repeat (first | exact (Kd.C_below HR0.out HB.out) | (with_reducible refine Kd.C_alloc ?_ _) | (with_reducible refine Kd.C_drewN ?_ _) | (with_reducible refine Kd.C_drew ?_))); (case side2 => exact HC0.out); rintro e w40 ⟨rfl, hb⟩; refine ⟨_, rfl, ?_⟩; have n0_ := Aside0.mk (blk_below (g := gb127) (o := .cells #[.int .i64 a1_0, .int .i64 a1_1] 46 (0, 0)) (by (with_reducible repeat (first | refine blk_drewN ?_ _ | refine blk_drew ?_ | refine blk_alloc ?_ _)); exact BK127.out) hb); have n1_ := Aside0.mk (below_step (by repeat (first | (with_reducible first | exact HB.out | apply below_alloc | apply pw_below_drewN | apply below_drew1 | refine below_set ?_ GE127.out) | exact HB.out)) hb); clear BK127; clear HB; have BK127 := n0_; have HB := n1_; clear n0_ n1_; (try clear hb); (try clear hb2); (try clear hk); (try clear hi); have hcz41_0 : w40.cell? ⟨gb127, 0, none⟩ = some (.int .i64 a1_0) := (blk_cell BK127.out 0).trans rfl; have hcz41_1 : w40.cell? ⟨gb127, 1, none⟩ = some (.int .i64 a1_1) := (blk_cell BK127.out 1).trans rfl; have hfz41_0 := blk_frozen BK127.out 0; have hfz41_1 := blk_frozen BK127.out 1) | ((with_reducible refine gate_callee (f := 36) rfl ?_); refine goesL_ (some 24) rfl rfl Try.func36 (by kernel_rfl) rfl #[.slice A0 l0.length c0, .agg #[.int .i64 a1_0, .int .i64 a1_1]] rfl (by (try simp only [List.map_toArray, List.map_cons, List.map_nil]); first | done | rfl | (simp only [List.length_drop, List.length_take]; rfl)) ?_; (with_reducible refine (merkhetref12_Gaps.calls k _ _ l0 a1_0 a1_1 t133 t134 false _ ?side1 ?side2 A10.out).mono ?_); (case side1 => repeat (first | exact (Kd.C_below HR0.out HB.out) | (with_reducible refine Kd.C_alloc ?_ _) | (with_reducible refine Kd.C_drewN ?_ _) | (with_reducible refine Kd.C_drew ?_))); (case side2 => exact HC0.out); rintro e w42 ⟨rfl, hb⟩; refine ⟨_, rfl, ?_⟩; have n0_ := Aside0.mk (blk_below (g := gb127) (o := .cells #[.int .i64 a1_0, .int .i64 a1_1] 46 (0, 0)) (by (with_reducible repeat (first | refine blk_drewN ?_ _ | refine blk_drew ?_ | refine blk_alloc ?_ _)); exact BK127.out) hb); have n1_ := Aside0.mk (below_step (by repeat (first | (with_reducible first | exact HB.out | apply below_alloc | apply pw_below_drewN | apply below_drew1 | refine below_set ?_ GE127.out) | exact HB.out)) hb); clear BK127; clear HB; have BK127 := n0_; have HB := n1_; clear n0_ n1_; (try clear hb); (try clear hb2); (try clear hk); (try clear hi)) | ((with_reducible refine gate_callee (f := 31) rfl ?_); refine goesL_ (some 28) rfl rfl Try.func31 (by kernel_rfl) rfl #[] rfl (by (try simp only [List.map_toArray, List.map_cons, List.map_nil]); first | done | rfl | (simp only [List.length_drop, List.length_take]; rfl)) ?_; (with_reducible refine (merkhetlaw12_fixed.calls k  true _ A11.out).mono ?_); rintro e w43 ⟨rfl, hb⟩; refine ⟨_, rfl, ?_⟩; have n0_ := Aside0.mk (blk_below (g := gb127) (o := .cells #[.int .i64 a1_0, .int .i64 a1_1] 46 (0, 0)) (by (with_reducible repeat (first | refine blk_drewN ?_ _ | refine blk_drew ?_ | refine blk_alloc ?_ _)); exact BK127.out) hb); have n1_ := Aside0.mk (below_step (by repeat (first | (with_reducible first | exact HB.out | apply below_alloc | apply pw_below_drewN | apply below_drew1 | refine below_set ?_ GE127.out) | exact HB.out)) hb); clear BK127; clear HB; have BK127 := n0_; have HB := n1_; clear n0_ n1_; (try clear hb); (try clear hb2); (try clear hk); (try clear hi); have hcz44_0 : w43.cell? ⟨gb127, 0, none⟩ = some (.int .i64 a1_0) := (blk_cell BK127.out 0).trans rfl; have hcz44_1 : w43.cell? ⟨gb127, 1, none⟩ = some (.int .i64 a1_1) := (blk_cell BK127.out 1).trans rfl; have hfz44_0 := blk_frozen BK127.out 0; have hfz44_1 := blk_frozen BK127.out 1) | (go_at_call 37; (with_reducible refine (rpc_Within.calls k _ _ l0 a1_0 a1_1 t137 _ ?side1 ?side2 A16.out).mono ?_); (case side1 => repeat (first | exact (Kd.C_below HR0.out HB.out) | (with_reducible refine Kd.C_alloc ?_ _) | (with_reducible refine Kd.C_drewN ?_ _) | (with_reducible refine Kd.C_drew ?_))); (case side2 => exact HC0.out); rintro e w45 ⟨rfl, hb⟩; have n0_ := Aside0.mk (blk_below (g := gb127) (o := .cells #[.int .i64 a1_0, .int .i64 a1_1] 46 (0, 0)) (by (with_reducible repeat (first | refine blk_drewN ?_ _ | refine blk_drew ?_ | refine blk_alloc ?_ _)); exact BK127.out) hb); have n1_ := Aside0.mk (below_step (by repeat (first | (with_reducible first | exact HB.out | apply below_alloc | apply pw_below_drewN | apply below_drew1 | refine below_set ?_ GE127.out) | exact HB.out)) hb); clear BK127; clear HB; have BK127 := n0_; have HB := n1_; clear n0_ n1_; (try clear hb); (try clear hb2); (try clear hk); (try clear hi)))
              go_ret
              exact ⟨by first | rfl | (simp [errW_none, errW_some] <;> rfl) | (simp [*, errW_none, errW_some] <;> rfl), by repeat (first | (with_reducible first | exact HB.out | apply below_alloc | apply pw_below_drewN | apply below_drew1 | refine below_set ?_ GE127.out) | exact HB.out)⟩
          · rw [if_neg c15] at H
            have c15b0 : (t132 == t135) = false := by simpa using c15
            (try (have c15b1 : decide (t132 = t135) = false := by simpa using c15))
            (try (have c15b2 : (t132 == t135) = false := by simpa using c15))
            (try (have c15b3 : ¬ (t132 = t135) := by simpa using c15))
            clear c15
            obtain rfl := Option.some.inj H
            go_enter Try.func12, Try.ntmps12
            go_wp2_with (first | ((with_reducible refine gate_dst (N := 3) rfl ?_); refine box_event ?hg (N := 3) ?hd (cs := #[.int .i64 a1_0, .int .i64 a1_1]) (t := 46) ?hr ?_; (case hd => rfl); (case hg => rfl); (case hr => first | (go_simp; done) | (go_simp; rfl)); intro gb127 hg w46 hbox hb; have n0_ := Aside0.mk (below_step (by repeat (first | (with_reducible first | exact HB.out | apply below_alloc | apply pw_below_drewN | apply below_drew1) | exact HB.out)) hb); have n1_ := Aside0.mk (hbox); have n2_ := Aside0.mk ((by rw [hg]; exact (below_size (by repeat (first | (with_reducible first | exact HB.out | apply below_alloc | apply pw_below_drewN | apply below_drew1) | exact HB.out))) : w.heap.size ≤ gb127)); have n3_ := Aside0.mk ((by rw [hg]; exact (below_size (by repeat (first | (with_reducible first | exact HB.out | apply below_alloc | apply pw_below_drewN | apply below_drew1) | exact HB.out))) : w.heap.size ≤ gb127)); clear HB; have HB := n0_; have BK127 := n1_; have GW127 := n2_; have GE127 := n3_; clear n0_ n1_ n2_ n3_; clear hb hbox hg) | ((with_reducible refine gate_callee (f := 30) rfl ?_); refine goesL_ (some 12) rfl rfl Try.func30 (by kernel_rfl) rfl #[.slice A0 l0.length c0] rfl (by (try simp only [List.map_toArray, List.map_cons, List.map_nil]); first | done | rfl | (simp only [List.length_drop, List.length_take]; rfl)) ?_; (with_reducible refine (merkhetlaw04_Great.calls k _ _ l0 false _ ?side1 ?side2 A3.out).mono ?_); (case side1 => repeat (first | exact (Kd.C_below HR0.out HB.out) | (with_reducible refine Kd.C_alloc ?_ _) | (with_reducible refine Kd.C_drewN ?_ _) | (with_reducible refine Kd.C_drew ?_))); (case side2 => exact HC0.out); rintro e w47 ⟨rfl, hb⟩; refine ⟨_, rfl, ?_⟩; have n0_ := Aside0.mk (blk_below (g := gb127) (o := .cells #[.int .i64 a1_0, .int .i64 a1_1] 46 (0, 0)) (by (with_reducible repeat (first | refine blk_drewN ?_ _ | refine blk_drew ?_ | refine blk_alloc ?_ _)); exact BK127.out) hb); have n1_ := Aside0.mk (below_step (by repeat (first | (with_reducible first | exact HB.out | apply below_alloc | apply pw_below_drewN | apply below_drew1 | refine below_set ?_ GE127.out) | exact HB.out)) hb); clear BK127; clear HB; have BK127 := n0_; have HB := n1_; clear n0_ n1_; (try clear hb); (try clear hb2); (try clear hk); (try clear hi); have hcz48_0 : w47.cell? ⟨gb127, 0, none⟩ = some (.int .i64 a1_0) := (blk_cell BK127.out 0).trans rfl; have hcz48_1 : w47.cell? ⟨gb127, 1, none⟩ = some (.int .i64 a1_1) := (blk_cell BK127.out 1).trans rfl; have hfz48_0 := blk_frozen BK127.out 0; have hfz48_1 := blk_frozen BK127.out 1) | ((with_reducible refine gate_callee (f := 35) rfl ?_); refine goesL_ (some 17) rfl rfl Try.func35 (by kernel_rfl) rfl #[.slice A0 l0.length c0, .agg #[.int .i64 a1_0, .int .i64 a1_1]] rfl (by (try simp only [List.map_toArray, List.map_cons, List.map_nil]); first | done | rfl | (simp only [List.length_drop, List.length_take]; rfl)) ?_; (with_reducible refine (rpc_Gaps.calls k _ _ l0 a1_0 a1_1 t130 t131 t132 _ ?side1 ?side2 A9.out).mono ?_); (case side1 => repeat (first | exact (Kd.C_below HR0.out HB.out) | (with_reducible refine Kd.C_alloc ?_ _) | (with_reducible refine Kd.C_drewN ?_ _) | (with_reducible refine Kd.C_drew ?_))); (case side2 => exact HC0.out); rintro e w49 ⟨rfl, hb⟩; refine ⟨_, rfl, ?_⟩; have n0_ := Aside0.mk (blk_below (g := gb127) (o := .cells #[.int .i64 a1_0, .int .i64 a1_1] 46 (0, 0)) (by (with_reducible repeat (first | refine blk_drewN ?_ _ | refine blk_drew ?_ | refine blk_alloc ?_ _)); exact BK127.out) hb); have n1_ := Aside0.mk (below_step (by repeat (first | (with_reducible first | exact HB.out | apply below_alloc | apply pw_below_drewN | apply below_drew1 | refine below_set ?_ GE127.out) | exact HB.out)) hb); clear BK127; clear HB; have BK127 := n0_; have HB := n1_; clear n0_ n1_; (try clear hb); (try clear hb2); (try clear hk); (try clear hi); have hcz50_0 : w49.cell? ⟨gb127, 0, none⟩ = some (.int .i64 a1_0) := (blk_cell BK127.out 0).trans rfl; have hcz50_1 : w49.cell? ⟨gb127, 1, none⟩ = some (.int .i64 a1_1) := (blk_cell BK127.out 1).trans rfl; have hfz50_0 := blk_frozen BK127.out 0; have hfz50_1 := blk_frozen BK127.out 1) | ((with_reducible refine gate_callee (f := 36) rfl ?_); refine goesL_ (some 24) rfl rfl Try.func36 (by kernel_rfl) rfl #[.slice A0 l0.length c0, .agg #[.int .i64 a1_0, .int .i64 a1_1]] rfl (by (try simp only [List.map_toArray, List.map_cons, List.map_nil]); first | done | rfl | (simp only [List.length_drop, List.length_take]; rfl)) ?_; (with_reducible refine (merkhetref12_Gaps.calls k _ _ l0 a1_0 a1_1 t133 t134 t135 _ ?side1 ?side2 A10.out).mono ?_); (case side1 => repeat (first | exact (Kd.C_below HR0.out HB.out) | (with_reducible refine Kd.C_alloc ?_ _) | (with_reducible refine Kd.C_drewN ?_ _) | (with_reducible refine Kd.C_drew ?_))); (case side2 => exact HC0.out); rintro e w51 ⟨rfl, hb⟩; refine ⟨_, rfl, ?_⟩; have n0_ := Aside0.mk (blk_below (g := gb127) (o := .cells #[.int .i64 a1_0, .int .i64 a1_1] 46 (0, 0)) (by (with_reducible repeat (first | refine blk_drewN ?_ _ | refine blk_drew ?_ | refine blk_alloc ?_ _)); exact BK127.out) hb); have n1_ := Aside0.mk (below_step (by repeat (first | (with_reducible first | exact HB.out | apply below_alloc | apply pw_below_drewN | apply below_drew1 | refine below_set ?_ GE127.out) | exact HB.out)) hb); clear BK127; clear HB; have BK127 := n0_; have HB := n1_; clear n0_ n1_; (try clear hb); (try clear hb2); (try clear hk); (try clear hi)) | ((with_reducible refine gate_callee (f := 31) rfl ?_); refine goesL_ (some 28) rfl rfl Try.func31 (by kernel_rfl) rfl #[] rfl (by (try simp only [List.map_toArray, List.map_cons, List.map_nil]); first | done | rfl | (simp only [List.length_drop, List.length_take]; rfl)) ?_; (with_reducible refine (merkhetlaw12_fixed.calls k  true _ A11.out).mono ?_); rintro e w52 ⟨rfl, hb⟩; refine ⟨_, rfl, ?_⟩; have n0_ := Aside0.mk (blk_below (g := gb127) (o := .cells #[.int .i64 a1_0, .int .i64 a1_1] 46 (0, 0)) (by (with_reducible repeat (first | refine blk_drewN ?_ _ | refine blk_drew ?_ | refine blk_alloc ?_ _)); exact BK127.out) hb); have n1_ := Aside0.mk (below_step (by repeat (first | (with_reducible first | exact HB.out | apply below_alloc | apply pw_below_drewN | apply below_drew1 | refine below_set ?_ GE127.out) | exact HB.out)) hb); clear BK127; clear HB; have BK127 := n0_; have HB := n1_; clear n0_ n1_; (try clear hb); (try clear hb2); (try clear hk); (try clear hi)))
            go_ret
            exact ⟨by first | rfl | (simp [errW_none, errW_some] <;> rfl) | (simp [*, errW_none, errW_some] <;> rfl), by repeat (first | (with_reducible first | exact HB.out | apply below_alloc | apply pw_below_drewN | apply below_drew1 | refine below_set ?_ GE127.out) | exact HB.out)⟩
        · rw [if_neg c14] at H
          have c14b0 : (t131 == t134) = false := beq_eq_false_iff_ne.mpr c14
          have c14b1 : (t131 != t134) = true := bne_iff_ne.mpr c14
          obtain rfl := Option.some.inj H
          go_enter Try.func12, Try.ntmps12
          go_wp2_with (first | ((with_reducible refine gate_dst (N := 3) rfl ?_); refine box_event ?hg (N := 3) ?hd (cs := #[.int .i64 a1_0, .int .i64 a1_1]) (t := 46) ?hr ?_; (case hd => rfl); (case hg => rfl); (case hr => first | (go_simp; done) | (go_simp; rfl)); intro gb127 hg w53 hbox hb; have n0_ := Aside0.mk (below_step (by repeat (first | (with_reducible first | exact HB.out | apply below_alloc | apply pw_below_drewN | apply below_drew1) | exact HB.out)) hb); have n1_ := Aside0.mk (hbox); have n2_ := Aside0.mk ((by rw [hg]; exact (below_size (by repeat (first | (with_reducible first | exact HB.out | apply below_alloc | apply pw_below_drewN | apply below_drew1) | exact HB.out))) : w.heap.size ≤ gb127)); have n3_ := Aside0.mk ((by rw [hg]; exact (below_size (by repeat (first | (with_reducible first | exact HB.out | apply below_alloc | apply pw_below_drewN | apply below_drew1) | exact HB.out))) : w.heap.size ≤ gb127)); clear HB; have HB := n0_; have BK127 := n1_; have GW127 := n2_; have GE127 := n3_; clear n0_ n1_ n2_ n3_; clear hb hbox hg) | ((with_reducible refine gate_callee (f := 30) rfl ?_); refine goesL_ (some 12) rfl rfl Try.func30 (by kernel_rfl) rfl #[.slice A0 l0.length c0] rfl (by (try simp only [List.map_toArray, List.map_cons, List.map_nil]); first | done | rfl | (simp only [List.length_drop, List.length_take]; rfl)) ?_; (with_reducible refine (merkhetlaw04_Great.calls k _ _ l0 false _ ?side1 ?side2 A3.out).mono ?_); (case side1 => repeat (first | exact (Kd.C_below HR0.out HB.out) | (with_reducible refine Kd.C_alloc ?_ _) | (with_reducible refine Kd.C_drewN ?_ _) | (with_reducible refine Kd.C_drew ?_))); (case side2 => exact HC0.out); rintro e w54 ⟨rfl, hb⟩; refine ⟨_, rfl, ?_⟩; have n0_ := Aside0.mk (blk_below (g := gb127) (o := .cells #[.int .i64 a1_0, .int .i64 a1_1] 46 (0, 0)) (by (with_reducible repeat (first | refine blk_drewN ?_ _ | refine blk_drew ?_ | refine blk_alloc ?_ _)); exact BK127.out) hb); have n1_ := Aside0.mk (below_step (by repeat (first | (with_reducible first | exact HB.out | apply below_alloc | apply pw_below_drewN | apply below_drew1 | refine below_set ?_ GE127.out) | exact HB.out)) hb); clear BK127; clear HB; have BK127 := n0_; have HB := n1_; clear n0_ n1_; (try clear hb); (try clear hb2); (try clear hk); (try clear hi); have hcz55_0 : w54.cell? ⟨gb127, 0, none⟩ = some (.int .i64 a1_0) := (blk_cell BK127.out 0).trans rfl; have hcz55_1 : w54.cell? ⟨gb127, 1, none⟩ = some (.int .i64 a1_1) := (blk_cell BK127.out 1).trans rfl; have hfz55_0 := blk_frozen BK127.out 0; have hfz55_1 := blk_frozen BK127.out 1) | ((with_reducible refine gate_callee (f := 35) rfl ?_); refine goesL_ (some 17) rfl rfl Try.func35 (by kernel_rfl) rfl #[.slice A0 l0.length c0, .agg #[.int .i64 a1_0, .int .i64 a1_1]] rfl (by (try simp only [List.map_toArray, List.map_cons, List.map_nil]); first | done | rfl | (simp only [List.length_drop, List.length_take]; rfl)) ?_; (with_reducible refine (rpc_Gaps.calls k _ _ l0 a1_0 a1_1 t130 t131 t132 _ ?side1 ?side2 A9.out).mono ?_); (case side1 => repeat (first | exact (Kd.C_below HR0.out HB.out) | (with_reducible refine Kd.C_alloc ?_ _) | (with_reducible refine Kd.C_drewN ?_ _) | (with_reducible refine Kd.C_drew ?_))); (case side2 => exact HC0.out); rintro e w56 ⟨rfl, hb⟩; refine ⟨_, rfl, ?_⟩; have n0_ := Aside0.mk (blk_below (g := gb127) (o := .cells #[.int .i64 a1_0, .int .i64 a1_1] 46 (0, 0)) (by (with_reducible repeat (first | refine blk_drewN ?_ _ | refine blk_drew ?_ | refine blk_alloc ?_ _)); exact BK127.out) hb); have n1_ := Aside0.mk (below_step (by repeat (first | (with_reducible first | exact HB.out | apply below_alloc | apply pw_below_drewN | apply below_drew1 | refine below_set ?_ GE127.out) | exact HB.out)) hb); clear BK127; clear HB; have BK127 := n0_; have HB := n1_; clear n0_ n1_; (try clear hb); (try clear hb2); (try clear hk); (try clear hi); have hcz57_0 : w56.cell? ⟨gb127, 0, none⟩ = some (.int .i64 a1_0) := (blk_cell BK127.out 0).trans rfl; have hcz57_1 : w56.cell? ⟨gb127, 1, none⟩ = some (.int .i64 a1_1) := (blk_cell BK127.out 1).trans rfl; have hfz57_0 := blk_frozen BK127.out 0; have hfz57_1 := blk_frozen BK127.out 1) | ((with_reducible refine gate_callee (f := 36) rfl ?_); refine goesL_ (some 24) rfl rfl Try.func36 (by kernel_rfl) rfl #[.slice A0 l0.length c0, .agg #[.int .i64 a1_0, .int .i64 a1_1]] rfl (by (try simp only [List.map_toArray, List.map_cons, List.map_nil]); first | done | rfl | (simp only [List.length_drop, List.length_take]; rfl)) ?_; (with_reducible refine (merkhetref12_Gaps.calls k _ _ l0 a1_0 a1_1 t133 t134 t135 _ ?side1 ?side2 A10.out).mono ?_); (case side1 => repeat (first | exact (Kd.C_below HR0.out HB.out) | (with_reducible refine Kd.C_alloc ?_ _) | (with_reducible refine Kd.C_drewN ?_ _) | (with_reducible refine Kd.C_drew ?_))); (case side2 => exact HC0.out); rintro e w58 ⟨rfl, hb⟩; refine ⟨_, rfl, ?_⟩; have n0_ := Aside0.mk (blk_below (g := gb127) (o := .cells #[.int .i64 a1_0, .int .i64 a1_1] 46 (0, 0)) (by (with_reducible repeat (first | refine blk_drewN ?_ _ | refine blk_drew ?_ | refine blk_alloc ?_ _)); exact BK127.out) hb); have n1_ := Aside0.mk (below_step (by repeat (first | (with_reducible first | exact HB.out | apply below_alloc | apply pw_below_drewN | apply below_drew1 | refine below_set ?_ GE127.out) | exact HB.out)) hb); clear BK127; clear HB; have BK127 := n0_; have HB := n1_; clear n0_ n1_; (try clear hb); (try clear hb2); (try clear hk); (try clear hi)) | ((with_reducible refine gate_callee (f := 31) rfl ?_); refine goesL_ (some 28) rfl rfl Try.func31 (by kernel_rfl) rfl #[] rfl (by (try simp only [List.map_toArray, List.map_cons, List.map_nil]); first | done | rfl | (simp only [List.length_drop, List.length_take]; rfl)) ?_; (with_reducible refine (merkhetlaw12_fixed.calls k  true _ A11.out).mono ?_); rintro e w59 ⟨rfl, hb⟩; refine ⟨_, rfl, ?_⟩; have n0_ := Aside0.mk (blk_below (g := gb127) (o := .cells #[.int .i64 a1_0, .int .i64 a1_1] 46 (0, 0)) (by (with_reducible repeat (first | refine blk_drewN ?_ _ | refine blk_drew ?_ | refine blk_alloc ?_ _)); exact BK127.out) hb); have n1_ := Aside0.mk (below_step (by repeat (first | (with_reducible first | exact HB.out | apply below_alloc | apply pw_below_drewN | apply below_drew1 | refine below_set ?_ GE127.out) | exact HB.out)) hb); clear BK127; clear HB; have BK127 := n0_; have HB := n1_; clear n0_ n1_; (try clear hb); (try clear hb2); (try clear hk); (try clear hi)))
          go_ret
          exact ⟨by first | rfl | (simp [errW_none, errW_some] <;> rfl) | (simp [*, errW_none, errW_some] <;> rfl), by repeat (first | (with_reducible first | exact HB.out | apply below_alloc | apply pw_below_drewN | apply below_drew1 | refine below_set ?_ GE127.out) | exact HB.out)⟩
      · rw [if_neg c13] at H
        have c13b0 : (t130 == t133) = false := beq_eq_false_iff_ne.mpr c13
        have c13b1 : (t130 != t133) = true := bne_iff_ne.mpr c13
        obtain rfl := Option.some.inj H
        go_enter Try.func12, Try.ntmps12
        go_wp2_with (first | ((with_reducible refine gate_dst (N := 3) rfl ?_); refine box_event ?hg (N := 3) ?hd (cs := #[.int .i64 a1_0, .int .i64 a1_1]) (t := 46) ?hr ?_; (case hd => rfl); (case hg => rfl); (case hr => first | (go_simp; done) | (go_simp; rfl)); intro gb127 hg w60 hbox hb; have n0_ := Aside0.mk (below_step (by repeat (first | (with_reducible first | exact HB.out | apply below_alloc | apply pw_below_drewN | apply below_drew1) | exact HB.out)) hb); have n1_ := Aside0.mk (hbox); have n2_ := Aside0.mk ((by rw [hg]; exact (below_size (by repeat (first | (with_reducible first | exact HB.out | apply below_alloc | apply pw_below_drewN | apply below_drew1) | exact HB.out))) : w.heap.size ≤ gb127)); have n3_ := Aside0.mk ((by rw [hg]; exact (below_size (by repeat (first | (with_reducible first | exact HB.out | apply below_alloc | apply pw_below_drewN | apply below_drew1) | exact HB.out))) : w.heap.size ≤ gb127)); clear HB; have HB := n0_; have BK127 := n1_; have GW127 := n2_; have GE127 := n3_; clear n0_ n1_ n2_ n3_; clear hb hbox hg) | ((with_reducible refine gate_callee (f := 30) rfl ?_); refine goesL_ (some 12) rfl rfl Try.func30 (by kernel_rfl) rfl #[.slice A0 l0.length c0] rfl (by (try simp only [List.map_toArray, List.map_cons, List.map_nil]); first | done | rfl | (simp only [List.length_drop, List.length_take]; rfl)) ?_; (with_reducible refine (merkhetlaw04_Great.calls k _ _ l0 false _ ?side1 ?side2 A3.out).mono ?_); (case side1 => repeat (first | exact (Kd.C_below HR0.out HB.out) | (with_reducible refine Kd.C_alloc ?_ _) | (with_reducible refine Kd.C_drewN ?_ _) | (with_reducible refine Kd.C_drew ?_))); (case side2 => exact HC0.out); rintro e w61 ⟨rfl, hb⟩; refine ⟨_, rfl, ?_⟩; have n0_ := Aside0.mk (blk_below (g := gb127) (o := .cells #[.int .i64 a1_0, .int .i64 a1_1] 46 (0, 0)) (by (with_reducible repeat (first | refine blk_drewN ?_ _ | refine blk_drew ?_ | refine blk_alloc ?_ _)); exact BK127.out) hb); have n1_ := Aside0.mk (below_step (by repeat (first | (with_reducible first | exact HB.out | apply below_alloc | apply pw_below_drewN | apply below_drew1 | refine below_set ?_ GE127.out) | exact HB.out)) hb); clear BK127; clear HB; have BK127 := n0_; have HB := n1_; clear n0_ n1_; (try clear hb); (try clear hb2); (try clear hk); (try clear hi); have hcz62_0 : w61.cell? ⟨gb127, 0, none⟩ = some (.int .i64 a1_0) := (blk_cell BK127.out 0).trans rfl; have hcz62_1 : w61.cell? ⟨gb127, 1, none⟩ = some (.int .i64 a1_1) := (blk_cell BK127.out 1).trans rfl; have hfz62_0 := blk_frozen BK127.out 0; have hfz62_1 := blk_frozen BK127.out 1) | ((with_reducible refine gate_callee (f := 35) rfl ?_); refine goesL_ (some 17) rfl rfl Try.func35 (by kernel_rfl) rfl #[.slice A0 l0.length c0, .agg #[.int .i64 a1_0, .int .i64 a1_1]] rfl (by (try simp only [List.map_toArray, List.map_cons, List.map_nil]); first | done | rfl | (simp only [List.length_drop, List.length_take]; rfl)) ?_; (with_reducible refine (rpc_Gaps.calls k _ _ l0 a1_0 a1_1 t130 t131 t132 _ ?side1 ?side2 A9.out).mono ?_); (case side1 => repeat (first | exact (Kd.C_below HR0.out HB.out) | (with_reducible refine Kd.C_alloc ?_ _) | (with_reducible refine Kd.C_drewN ?_ _) | (with_reducible refine Kd.C_drew ?_))); (case side2 => exact HC0.out); rintro e w63 ⟨rfl, hb⟩; refine ⟨_, rfl, ?_⟩; have n0_ := Aside0.mk (blk_below (g := gb127) (o := .cells #[.int .i64 a1_0, .int .i64 a1_1] 46 (0, 0)) (by (with_reducible repeat (first | refine blk_drewN ?_ _ | refine blk_drew ?_ | refine blk_alloc ?_ _)); exact BK127.out) hb); have n1_ := Aside0.mk (below_step (by repeat (first | (with_reducible first | exact HB.out | apply below_alloc | apply pw_below_drewN | apply below_drew1 | refine below_set ?_ GE127.out) | exact HB.out)) hb); clear BK127; clear HB; have BK127 := n0_; have HB := n1_; clear n0_ n1_; (try clear hb); (try clear hb2); (try clear hk); (try clear hi); have hcz64_0 : w63.cell? ⟨gb127, 0, none⟩ = some (.int .i64 a1_0) := (blk_cell BK127.out 0).trans rfl; have hcz64_1 : w63.cell? ⟨gb127, 1, none⟩ = some (.int .i64 a1_1) := (blk_cell BK127.out 1).trans rfl; have hfz64_0 := blk_frozen BK127.out 0; have hfz64_1 := blk_frozen BK127.out 1) | ((with_reducible refine gate_callee (f := 36) rfl ?_); refine goesL_ (some 24) rfl rfl Try.func36 (by kernel_rfl) rfl #[.slice A0 l0.length c0, .agg #[.int .i64 a1_0, .int .i64 a1_1]] rfl (by (try simp only [List.map_toArray, List.map_cons, List.map_nil]); first | done | rfl | (simp only [List.length_drop, List.length_take]; rfl)) ?_; (with_reducible refine (merkhetref12_Gaps.calls k _ _ l0 a1_0 a1_1 t133 t134 t135 _ ?side1 ?side2 A10.out).mono ?_); (case side1 => repeat (first | exact (Kd.C_below HR0.out HB.out) | (with_reducible refine Kd.C_alloc ?_ _) | (with_reducible refine Kd.C_drewN ?_ _) | (with_reducible refine Kd.C_drew ?_))); (case side2 => exact HC0.out); rintro e w65 ⟨rfl, hb⟩; refine ⟨_, rfl, ?_⟩; have n0_ := Aside0.mk (blk_below (g := gb127) (o := .cells #[.int .i64 a1_0, .int .i64 a1_1] 46 (0, 0)) (by (with_reducible repeat (first | refine blk_drewN ?_ _ | refine blk_drew ?_ | refine blk_alloc ?_ _)); exact BK127.out) hb); have n1_ := Aside0.mk (below_step (by repeat (first | (with_reducible first | exact HB.out | apply below_alloc | apply pw_below_drewN | apply below_drew1 | refine below_set ?_ GE127.out) | exact HB.out)) hb); clear BK127; clear HB; have BK127 := n0_; have HB := n1_; clear n0_ n1_; (try clear hb); (try clear hb2); (try clear hk); (try clear hi)) | ((with_reducible refine gate_callee (f := 31) rfl ?_); refine goesL_ (some 28) rfl rfl Try.func31 (by kernel_rfl) rfl #[] rfl (by (try simp only [List.map_toArray, List.map_cons, List.map_nil]); first | done | rfl | (simp only [List.length_drop, List.length_take]; rfl)) ?_; (with_reducible refine (merkhetlaw12_fixed.calls k  true _ A11.out).mono ?_); rintro e w66 ⟨rfl, hb⟩; refine ⟨_, rfl, ?_⟩; have n0_ := Aside0.mk (blk_below (g := gb127) (o := .cells #[.int .i64 a1_0, .int .i64 a1_1] 46 (0, 0)) (by (with_reducible repeat (first | refine blk_drewN ?_ _ | refine blk_drew ?_ | refine blk_alloc ?_ _)); exact BK127.out) hb); have n1_ := Aside0.mk (below_step (by repeat (first | (with_reducible first | exact HB.out | apply below_alloc | apply pw_below_drewN | apply below_drew1 | refine below_set ?_ GE127.out) | exact HB.out)) hb); clear BK127; clear HB; have BK127 := n0_; have HB := n1_; clear n0_ n1_; (try clear hb); (try clear hb2); (try clear hk); (try clear hi)))
        go_ret
        exact ⟨by first | rfl | (simp [errW_none, errW_some] <;> rfl) | (simp [*, errW_none, errW_some] <;> rfl), by repeat (first | (with_reducible first | exact HB.out | apply below_alloc | apply pw_below_drewN | apply below_drew1 | refine below_set ?_ GE127.out) | exact HB.out)⟩
    · replace c12 := Bool.eq_false_iff.mpr c12
      subst c12
      have H1 : (some false) = some r := by rw [if_neg (show ¬ (false = true) by decide)] at H; exact H
      clear H
      have H := H1
      clear H1
      obtain rfl := Option.some.inj H
      go_enter Try.func12, Try.ntmps12
      go_wp2_with (first | ((with_reducible refine gate_dst (N := 3) rfl ?_); refine box_event ?hg (N := 3) ?hd (cs := #[.int .i64 a1_0, .int .i64 a1_1]) (t := 46) ?hr ?_; (case hd => rfl); (case hg => rfl); (case hr => first | (go_simp; done) | (go_simp; rfl)); intro gb127 hg w67 hbox hb; have n0_ := Aside0.mk (below_step (by repeat (first | (with_reducible first | exact HB.out | apply below_alloc | apply pw_below_drewN | apply below_drew1) | exact HB.out)) hb); have n1_ := Aside0.mk (hbox); have n2_ := Aside0.mk ((by rw [hg]; exact (below_size (by repeat (first | (with_reducible first | exact HB.out | apply below_alloc | apply pw_below_drewN | apply below_drew1) | exact HB.out))) : w.heap.size ≤ gb127)); have n3_ := Aside0.mk ((by rw [hg]; exact (below_size (by repeat (first | (with_reducible first | exact HB.out | apply below_alloc | apply pw_below_drewN | apply below_drew1) | exact HB.out))) : w.heap.size ≤ gb127)); clear HB; have HB := n0_; have BK127 := n1_; have GW127 := n2_; have GE127 := n3_; clear n0_ n1_ n2_ n3_; clear hb hbox hg) | ((with_reducible refine gate_callee (f := 30) rfl ?_); refine goesL_ (some 12) rfl rfl Try.func30 (by kernel_rfl) rfl #[.slice A0 l0.length c0] rfl (by (try simp only [List.map_toArray, List.map_cons, List.map_nil]); first | done | rfl | (simp only [List.length_drop, List.length_take]; rfl)) ?_; (with_reducible refine (merkhetlaw04_Great.calls k _ _ l0 false _ ?side1 ?side2 A3.out).mono ?_); (case side1 => repeat (first | exact (Kd.C_below HR0.out HB.out) | (with_reducible refine Kd.C_alloc ?_ _) | (with_reducible refine Kd.C_drewN ?_ _) | (with_reducible refine Kd.C_drew ?_))); (case side2 => exact HC0.out); rintro e w68 ⟨rfl, hb⟩; refine ⟨_, rfl, ?_⟩; have n0_ := Aside0.mk (blk_below (g := gb127) (o := .cells #[.int .i64 a1_0, .int .i64 a1_1] 46 (0, 0)) (by (with_reducible repeat (first | refine blk_drewN ?_ _ | refine blk_drew ?_ | refine blk_alloc ?_ _)); exact BK127.out) hb); have n1_ := Aside0.mk (below_step (by repeat (first | (with_reducible first | exact HB.out | apply below_alloc | apply pw_below_drewN | apply below_drew1 | refine below_set ?_ GE127.out) | exact HB.out)) hb); clear BK127; clear HB; have BK127 := n0_; have HB := n1_; clear n0_ n1_; (try clear hb); (try clear hb2); (try clear hk); (try clear hi); have hcz69_0 : w68.cell? ⟨gb127, 0, none⟩ = some (.int .i64 a1_0) := (blk_cell BK127.out 0).trans rfl; have hcz69_1 : w68.cell? ⟨gb127, 1, none⟩ = some (.int .i64 a1_1) := (blk_cell BK127.out 1).trans rfl; have hfz69_0 := blk_frozen BK127.out 0; have hfz69_1 := blk_frozen BK127.out 1) | ((with_reducible refine gate_callee (f := 35) rfl ?_); refine goesL_ (some 17) rfl rfl Try.func35 (by kernel_rfl) rfl #[.slice A0 l0.length c0, .agg #[.int .i64 a1_0, .int .i64 a1_1]] rfl (by (try simp only [List.map_toArray, List.map_cons, List.map_nil]); first | done | rfl | (simp only [List.length_drop, List.length_take]; rfl)) ?_; (with_reducible refine (rpc_Gaps.calls k _ _ l0 a1_0 a1_1 t130 t131 t132 _ ?side1 ?side2 A9.out).mono ?_); (case side1 => repeat (first | exact (Kd.C_below HR0.out HB.out) | (with_reducible refine Kd.C_alloc ?_ _) | (with_reducible refine Kd.C_drewN ?_ _) | (with_reducible refine Kd.C_drew ?_))); (case side2 => exact HC0.out); rintro e w70 ⟨rfl, hb⟩; refine ⟨_, rfl, ?_⟩; have n0_ := Aside0.mk (blk_below (g := gb127) (o := .cells #[.int .i64 a1_0, .int .i64 a1_1] 46 (0, 0)) (by (with_reducible repeat (first | refine blk_drewN ?_ _ | refine blk_drew ?_ | refine blk_alloc ?_ _)); exact BK127.out) hb); have n1_ := Aside0.mk (below_step (by repeat (first | (with_reducible first | exact HB.out | apply below_alloc | apply pw_below_drewN | apply below_drew1 | refine below_set ?_ GE127.out) | exact HB.out)) hb); clear BK127; clear HB; have BK127 := n0_; have HB := n1_; clear n0_ n1_; (try clear hb); (try clear hb2); (try clear hk); (try clear hi); have hcz71_0 : w70.cell? ⟨gb127, 0, none⟩ = some (.int .i64 a1_0) := (blk_cell BK127.out 0).trans rfl; have hcz71_1 : w70.cell? ⟨gb127, 1, none⟩ = some (.int .i64 a1_1) := (blk_cell BK127.out 1).trans rfl; have hfz71_0 := blk_frozen BK127.out 0; have hfz71_1 := blk_frozen BK127.out 1) | ((with_reducible refine gate_callee (f := 36) rfl ?_); refine goesL_ (some 24) rfl rfl Try.func36 (by kernel_rfl) rfl #[.slice A0 l0.length c0, .agg #[.int .i64 a1_0, .int .i64 a1_1]] rfl (by (try simp only [List.map_toArray, List.map_cons, List.map_nil]); first | done | rfl | (simp only [List.length_drop, List.length_take]; rfl)) ?_; (with_reducible refine (merkhetref12_Gaps.calls k _ _ l0 a1_0 a1_1 t133 t134 t135 _ ?side1 ?side2 A10.out).mono ?_); (case side1 => repeat (first | exact (Kd.C_below HR0.out HB.out) | (with_reducible refine Kd.C_alloc ?_ _) | (with_reducible refine Kd.C_drewN ?_ _) | (with_reducible refine Kd.C_drew ?_))); (case side2 => exact HC0.out); rintro e w72 ⟨rfl, hb⟩; refine ⟨_, rfl, ?_⟩; have n0_ := Aside0.mk (blk_below (g := gb127) (o := .cells #[.int .i64 a1_0, .int .i64 a1_1] 46 (0, 0)) (by (with_reducible repeat (first | refine blk_drewN ?_ _ | refine blk_drew ?_ | refine blk_alloc ?_ _)); exact BK127.out) hb); have n1_ := Aside0.mk (below_step (by repeat (first | (with_reducible first | exact HB.out | apply below_alloc | apply pw_below_drewN | apply below_drew1 | refine below_set ?_ GE127.out) | exact HB.out)) hb); clear BK127; clear HB; have BK127 := n0_; have HB := n1_; clear n0_ n1_; (try clear hb); (try clear hb2); (try clear hk); (try clear hi)) | ((with_reducible refine gate_callee (f := 31) rfl ?_); refine goesL_ (some 28) rfl rfl Try.func31 (by kernel_rfl) rfl #[] rfl (by (try simp only [List.map_toArray, List.map_cons, List.map_nil]); first | done | rfl | (simp only [List.length_drop, List.length_take]; rfl)) ?_; (with_reducible refine (merkhetlaw12_fixed.calls k  false _ A11.out).mono ?_); rintro e w73 ⟨rfl, hb⟩; refine ⟨_, rfl, ?_⟩; have n0_ := Aside0.mk (blk_below (g := gb127) (o := .cells #[.int .i64 a1_0, .int .i64 a1_1] 46 (0, 0)) (by (with_reducible repeat (first | refine blk_drewN ?_ _ | refine blk_drew ?_ | refine blk_alloc ?_ _)); exact BK127.out) hb); have n1_ := Aside0.mk (below_step (by repeat (first | (with_reducible first | exact HB.out | apply below_alloc | apply pw_below_drewN | apply below_drew1 | refine below_set ?_ GE127.out) | exact HB.out)) hb); clear BK127; clear HB; have BK127 := n0_; have HB := n1_; clear n0_ n1_; (try clear hb); (try clear hb2); (try clear hk); (try clear hi)))
      go_ret
      exact ⟨by first | rfl | (simp [errW_none, errW_some] <;> rfl) | (simp [*, errW_none, errW_some] <;> rfl), by repeat (first | (with_reducible first | exact HB.out | apply below_alloc | apply pw_below_drewN | apply below_drew1 | refine below_set ?_ GE127.out) | exact HB.out)⟩

/-- THE ONE PURE STATEMENT of merkhetlaw12_RpcGaps. -/
def merkhetlaw12_RpcGaps.Pure : Prop := ∀ (l0 : List (S37)) (a1_0 : Int) (a1_1 : Int), l0.length ≤ maxLen → (∀ x0_ ∈ l0, ((Lit.int .u64 x0_.f0).wf = true ∧ (Lit.int .u64 x0_.f1).wf = true ∧ (Lit.int .u64 x0_.f2).wf = true ∧ (Lit.int .u8 x0_.f3).wf = true ∧ x0_.f4.size ≤ maxLen ∧ x0_.f5.size ≤ maxLen ∧ (Lit.int .i64 x0_.f6).wf = true ∧ (Lit.int .i64 x0_.f7).wf = true)) → (Lit.int .i64 a1_0).wf = true → (Lit.int .i64 a1_1).wf = true → ∃ k, merkhetlaw12_RpcGaps.f k l0 a1_0 a1_1 = some true

end Go.Proofs.Ytcgjplolehhpjaa.S
