-- WRITTEN FOR THIS CLAIM by wip/tools/mp.py, a program of this project that drives the kit's print; the functions that the print does not take are this project's own texts.
import Derived.Test.YtcgjplolehhpjaaNx0
import Derived.Test.YtcgjplolehhpjaaNx1
namespace Go.Proofs.Ytcgjplolehhpjaa.N
open Go.RowKit Go.Proofs.YtcgjplolehhpjaaW.PrintWords Go.Proofs.YtcgjplolehhpjaaW.PrintLast Go.Proofs.YtcgjplolehhpjaaW.PrintMore
attribute [local go_sem] max2_int min2_int max_two min_two max_three min_three max_four min_four   -- for this text's walks alone
set_option linter.unusedVariables false
set_option linter.unusedSimpArgs false

/-! ### merkhetlaw11_ForestOrder: function 6 -/
def merkhetlaw11_ForestOrder_ord (row : List S34) : Prop := ∀ i, i < row.length → ∀ j, j < i → ¬ ((rd_T34 row (j : Int)).f2 = (rd_T34 row (i : Int)).f2 ∧ (rd_T34 row (i : Int)).f0 ≤ (rd_T34 row (j : Int)).f0)
instance (row : List S34) : Decidable (merkhetlaw11_ForestOrder_ord row) := by unfold merkhetlaw11_ForestOrder_ord; infer_instance
def merkhetlaw11_ForestOrder_fix (k : Nat) : Option Bool := (merkhetlaw11_fixed.f k).bind fun y => if y = true then some true else none
def merkhetlaw11_ForestOrder.f (k : Nat) (l0 : List Int) : Option Bool :=
  if (l0.length : Int) > 60 then merkhetlaw11_ForestOrder_fix k
  else (forest_Row.f k l0).bind fun row => if merkhetlaw11_ForestOrder_ord row ∧ row.length ≤ 1000000 then (merkhetlaw11_ForestOrder_fix k).bind fun _ => (parent_Right.f k l0).bind fun b => if decide ((row.length : Int) = (l0.length : Int)) = b then (forest_Depth.f k l0).bind fun d => if decide ((row.length : Int) = 0) = decide (d = -1) then some true else none else none else none
theorem merkhetlaw11_ForestOrder_fix_mono (k : Nat) : LeO (merkhetlaw11_ForestOrder_fix k) (merkhetlaw11_ForestOrder_fix (k + 1)) := LeO.bind (merkhetlaw11_fixed.mono _) (fun _ => LeO.refl _)
theorem merkhetlaw11_ForestOrder.mono : ∀ a0 k, LeO (merkhetlaw11_ForestOrder.f k a0) (merkhetlaw11_ForestOrder.f (k + 1) a0) := by
  intro a0 k
  exact LeO.ite (merkhetlaw11_ForestOrder_fix_mono k) (LeO.bind (forest_Row.mono _ _) (fun _ => LeO.ite (LeO.bind (merkhetlaw11_ForestOrder_fix_mono k) (fun _ => LeO.bind (parent_Right.mono _ _) (fun _ => LeO.ite (LeO.bind (forest_Depth.mono _ _) (fun _ => LeO.refl _)) (LeO.refl _)))) (LeO.refl _)))
theorem merkhetlaw11_ForestOrder_if {c : Prop} [Decidable c] {o : Option Bool} {r : Bool} (h : (if c then o else none) = some r) : c ∧ o = some r := by
  by_cases hc : c
  · exact ⟨hc, by simpa [hc] using h⟩
  · exact absurd h (by simp [hc])
set_option maxHeartbeats 8000000 in
set_option maxRecDepth 100000 in
theorem merkhetlaw11_ForestOrder.calls (k : Nat) (A0 : Option Addr) (c0 : Nat) (l0 : List Int) (r : Bool) (w : World) (hr0 : Kd.C (Kd.int .i64) w A0 l0.length l0) (hc0 : l0.length ≤ c0) (h : merkhetlaw11_ForestOrder.f k l0 = some r) :
    Calls Try.prog 6 #[.slice A0 l0.length c0] w fun e w' => e = .returned (.bool r) ∧ Below w.heap.size w w' := by
  have hui_ := Try.underlying34
  have HR := Aside0.mk hr0
  have HC := Aside0.mk hc0
  clear hr0 hc0
  unfold merkhetlaw11_ForestOrder.f at h
  by_cases c : (l0.length : Int) > 60
  · rw [if_pos c] at h
    obtain ⟨y, hy, h'⟩ := Option.bind_eq_some_iff.mp h
    obtain ⟨rfl, h2⟩ := merkhetlaw11_ForestOrder_if h'
    obtain rfl := Option.some.inj h2
    have HY := Aside0.mk hy
    have cb := decide_eq_true c
    clear h h' h2 hy c
    go_enter Try.func6, Try.ntmps6
    go_wp2_with (fail)
    refine (merkhetlaw11_fixed.calls k true _ HY.out).mono ?_
    rintro e w2 ⟨rfl, hb⟩
    have HB2 := Aside0.mk hb
    clear hb
    go_wp2_with (fail)
    go_ret
    exact ⟨rfl, HB2.out⟩
  rw [if_neg c] at h
  have cb := decide_eq_false c
  obtain ⟨row, hrow, h1⟩ := Option.bind_eq_some_iff.mp h
  obtain ⟨⟨hord, hlen⟩, h2⟩ := merkhetlaw11_ForestOrder_if h1
  obtain ⟨u, hu, h3⟩ := Option.bind_eq_some_iff.mp h2
  obtain ⟨y, hy, hu'⟩ := Option.bind_eq_some_iff.mp hu
  obtain ⟨rfl, -⟩ := merkhetlaw11_ForestOrder_if hu'
  obtain ⟨b, hb, h4⟩ := Option.bind_eq_some_iff.mp h3
  obtain ⟨hbe, h5⟩ := merkhetlaw11_ForestOrder_if h4
  obtain ⟨dd, hdd, h6⟩ := Option.bind_eq_some_iff.mp h5
  obtain ⟨hde, h7⟩ := merkhetlaw11_ForestOrder_if h6
  obtain rfl := Option.some.inj h7
  subst hbe
  have HROW := Aside0.mk hrow
  have HORD := Aside0.mk hord
  have HLEN := Aside0.mk hlen
  have HY := Aside0.mk hy
  have HRT := Aside0.mk hb
  have HDP := Aside0.mk hdd
  have HDE := Aside0.mk hde
  clear h h1 h2 h3 h4 h5 h6 h7 hrow hord hlen hy hb hdd hde hu hu' c
  go_enter Try.func6, Try.ntmps6
  go_wp2_with (fail)
  refine (forest_Row.calls k A0 c0 l0 row _ HR.out HC.out HROW.out).mono ?_
  rintro e w3 ⟨v3, rfl, hO, hb3⟩
  obtain ⟨Ap, cp, rfl⟩ := Kd.R_slice hO
  have hrd := Kd.R_reads' hO
  have HPC := Aside0.mk hrd.2.2
  have HCP := Aside0.mk hrd.2.1
  have HB3 := Aside0.mk hb3
  clear hrd hO hb3
  go_wp2_with (fail)
  go_loopg [16] row.length (fun d v16 wr => ∃ (i : Nat), i + d = row.length ∧ v16 = .int .i64 i ∧ Aside0 (Below w3.heap.size w3 wr))
  case atStart => exact ⟨0, by omega, rfl, ⟨by first | exact Below.refl _ _ | exact pw_below_drewN (Below.refl _ _) _⟩⟩
  case round =>
    obtain ⟨i, hi, rfl, HB⟩ := hrel
    by_cases hlt : i < row.length
    · have hltz : (i : Int) < (row.length : Int) := by omega
      have hcp : i ≤ cp := by have := HCP.out; omega
      have hcpz : (i : Int) ≤ (cp : Int) := by omega
      obtain ⟨ap, e, x0, x1, x2⟩ := at_T34 HPC.out (i : Int) (by omega) hltz
      cases e
      replace x0 := (HB.out.cell (World.block_lt_of_cell? w3 _ x0)).trans x0
      replace x1 := (HB.out.cell (World.block_lt_of_cell? w3 _ x1)).trans x1
      replace x2 := (HB.out.cell (World.block_lt_of_cell? w3 _ x2)).trans x2
      simp only [Int.toNat_natCast] at x0 x1 x2
      have ho := HORD.out i hlt
      generalize rd_T34 row (i : Int) = x at x0 x1 x2 ho
      have HO := Aside0.mk ho
      clear ho
      have HK := Aside0.mk (blk_new wr (.cells #[.int .i64 x.f0, .int .i64 x.f1, .int .i64 x.f2] 34 (0, 0)))
      have HBW := Aside0.mk (below_alloc HB.out (.cells #[.int .i64 x.f0, .int .i64 x.f1, .int .i64 x.f2] 34 (0, 0)))
      go_wp2_with (fail)
      clear x0 x1 x2
      generalize hW : wr.alloc (.cells #[.int .i64 x.f0, .int .i64 x.f1, .int .i64 x.f2] 34 (0, 0)) = W at HK HBW ⊢
      generalize wr.heap.size = B at HK ⊢
      clear hW
      go_wp2_with (fail)
      go_loopg [25] i (fun d v25 wq => ∃ (j : Nat), j + d = i ∧ v25 = .int .i64 j ∧ Aside0 (Below W.heap.size W wq))
      case atStart => exact ⟨0, by omega, rfl, ⟨by first | exact Below.refl _ _ | exact pw_below_drewN (Below.refl _ _) _⟩⟩
      case round =>
        obtain ⟨j, hj, rfl, HBq⟩ := hrel
        by_cases hjt : j < i
        · have hjz : (j : Int) < (i : Int) := by omega
          have hjr : (j : Int) < (row.length : Int) := by omega
          have HBV := Aside0.mk (below_step HBW.out HBq.out)
          obtain ⟨ad2, e, y0, y1, y2⟩ := at_T34 HPC.out (j : Int) (by omega) hjr
          cases e
          replace y0 := (HBV.out.cell (World.block_lt_of_cell? w3 _ y0)).trans y0
          replace y1 := (HBV.out.cell (World.block_lt_of_cell? w3 _ y1)).trans y1
          replace y2 := (HBV.out.cell (World.block_lt_of_cell? w3 _ y2)).trans y2
          simp only [Int.toNat_natCast] at y0 y1 y2
          have hne := HO.out j hjt
          generalize rd_T34 row (j : Int) = y at y0 y1 y2 hne
          have HKq := Aside0.mk (blk_below HK.out HBq.out)
          have hk0 : ∀ o : Obj, (wr.alloc o).cell? ⟨B, 0, none⟩ = some (.int .i64 x.f0) := fun o => (blk_cell (blk_alloc HKq.out o) 0).trans rfl
          have hk2 : ∀ o : Obj, (wr.alloc o).cell? ⟨B, 2, none⟩ = some (.int .i64 x.f2) := fun o => (blk_cell (blk_alloc HKq.out o) 2).trans rfl
          by_cases c1 : y.f2 = x.f2
          · have c1b : (y.f2 == x.f2) = true := beq_iff_eq.mpr c1
            have c2 : decide (x.f0 ≤ y.f0) = false := decide_eq_false (fun hh => hne ⟨c1, hh⟩)
            clear hne c1
            go_wp2_with (fail)
            go_roundg (i - (j + 1))
            case measure => omega
            case rel => exact ⟨j + 1, by omega, by rw [show wrap64 ((j : Int) + 1) = ((j + 1 : Nat) : Int) by have hln_ := HLEN.out; unfold wrap64; omega], ⟨by first | exact pw_below_drewN (below_alloc HBq.out _) _ | exact below_alloc HBq.out _⟩⟩
          · have c1b : (y.f2 == x.f2) = false := beq_eq_false_iff_ne.mpr c1
            clear hne c1
            go_wp2_with (fail)
            go_roundg (i - (j + 1))
            case measure => omega
            case rel => exact ⟨j + 1, by omega, by rw [show wrap64 ((j : Int) + 1) = ((j + 1 : Nat) : Int) by have hln_ := HLEN.out; unfold wrap64; omega], ⟨by first | exact pw_below_drewN (below_alloc HBq.out _) _ | exact below_alloc HBq.out _⟩⟩
        · have hjz : ¬ (j : Int) < (i : Int) := by omega
          go_wp2_with (fail)
          go_roundg (row.length - (i + 1))
          case measure => omega
          case rel => exact ⟨i + 1, by omega, by rw [show wrap64 ((i : Int) + 1) = ((i + 1 : Nat) : Int) by have hln_ := HLEN.out; unfold wrap64; omega], ⟨below_step HBW.out HBq.out⟩⟩
    · obtain rfl : i = row.length := by omega
      have hltz : ¬ (row.length : Int) < (row.length : Int) := by omega
      have HBW := Aside0.mk (below_step HB3.out HB.out)
      go_wp2_with (fail)
      refine (merkhetlaw11_fixed.calls k true _ HY.out).mono ?_
      rintro e w6 ⟨rfl, hb6⟩
      have HB6 := Aside0.mk (below_step HBW.out hb6)
      clear hb6
      go_wp2_with (fail)
      refine (parent_Right.calls k A0 c0 l0 _ _ (Kd.C_below HR.out HB6.out) HC.out HRT.out).mono ?_
      rintro e w7 ⟨rfl, hb7⟩
      have HB7 := Aside0.mk (below_step HB6.out hb7)
      clear hb7
      have c5 : ((row.length : Int) == (l0.length : Int)) = decide ((row.length : Int) = (l0.length : Int)) := rfl
      go_wp2_with (fail)
      refine (forest_Depth.calls k A0 c0 l0 dd _ (Kd.C_below HR.out HB7.out) HC.out HDP.out).mono ?_
      rintro e w8 ⟨rfl, hb8⟩
      have HB8 := Aside0.mk (below_step HB7.out hb8)
      clear hb8
      go_wp2_with (fail)
      go_ret
      exact ⟨by have h_ := HDE.out; show Ending.returned (.bool (((row.length : Int) == 0) == (dd == -1))) = _; rw [show ((row.length : Int) == 0) = (dd == -1) from h_]; simp, HB8.out⟩

/-- THE ONE PURE STATEMENT of merkhetlaw11_ForestOrder. -/
def merkhetlaw11_ForestOrder.Pure : Prop := ∀ (l0 : List Int), l0.length ≤ maxLen → l0.length * 8 ≤ 140737488351232 → (∀ x0_ ∈ l0, (Lit.int .i64 x0_).wf = true) → ∃ k, merkhetlaw11_ForestOrder.f k l0 = some true


end Go.Proofs.Ytcgjplolehhpjaa.N
