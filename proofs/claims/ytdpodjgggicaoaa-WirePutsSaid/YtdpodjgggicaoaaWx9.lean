-- WRITTEN FOR THIS CLAIM by wip/tools/mp.py, a program of this project that drives the kit's print; the functions that the print does not take are this project's own texts.
import Derived.Test.YtdpodjgggicaoaaWx0
import Derived.Test.YtdpodjgggicaoaaWx7
import Derived.Test.YtdpodjgggicaoaaWx8
namespace Go.Proofs.Ytdpodjgggicaoaa.W
open Go.RowKit Go.Proofs.YtdpodjgggicaoaaW.PrintWords Go.Proofs.YtdpodjgggicaoaaW.PrintLast Go.Proofs.YtdpodjgggicaoaaW.PrintMore
attribute [local go_sem] max2_int min2_int max_two min_two max_three min_three max_four min_four   -- for this text's walks alone
set_option linter.unusedVariables false
set_option linter.unusedSimpArgs false

/-! ### merkhetref04_May: function 47 -/
mutual
def merkhetref04_May.j0 : Nat → List (S77) → Bool → Option (Bool)
  | 0, _, _ => none
  | k + 1, x0, x11 => if x11 = true then (some false) else (merkhetref04_May.l0 k x0 0)
def merkhetref04_May.l0 : Nat → List (S77) → Int → Option (Bool)
  | 0, _, _ => none
  | k + 1, x0, x3 => if x3 < (x0.length : Int) then (if 0 ≤ x3 then ((merkhetref01_May.f k ((rd_T77 x0 x3).f0) ((rd_T77 x0 x3).f1) ((rd_T77 x0 x3).f2) ((rd_T77 x0 x3).f3) ((rd_T77 x0 x3).f4) ((rd_T77 x0 x3).f5) ((rd_T77 x0 x3).f6) ((rd_T77 x0 x3).f7)).bind fun t218 => (if t218 = true then (merkhetref04_May.l0 k x0 (wrap64 (x3 + 1))) else (some false))) else (none)) else (some true)
end
def merkhetref04_May.f (k : Nat) (l0 : List (S77)) : Option (Bool) := if (l0.length : Int) = 0 then (merkhetref04_May.j0 k l0 true) else (merkhetref04_May.j0 k l0 (decide ((l0.length : Int) > 32)))
theorem merkhetref04_May.mono_l : ∀ k, (∀ y0 y1, LeO (merkhetref04_May.j0 k y0 y1) (merkhetref04_May.j0 (k + 1) y0 y1)) ∧ (∀ y0 y1, LeO (merkhetref04_May.l0 k y0 y1) (merkhetref04_May.l0 (k + 1) y0 y1))
  | 0 => ⟨fun _ _ r h => by simp [merkhetref04_May.j0] at h, fun _ _ r h => by simp [merkhetref04_May.l0] at h⟩
  | k + 1 => by
    obtain ⟨ih0, ih1⟩ := merkhetref04_May.mono_l k
    refine ⟨?_, ?_⟩
    · intro y0 y1
      unfold merkhetref04_May.j0
      repeat' first
      | (with_reducible exact ih0 _ _)
      | (with_reducible exact ih1 _ _)
      | (with_reducible exact merkhetref01_May.mono _ _ _ _ _ _ _ _ _)
      | (with_reducible exact LeO.refl _)
      | (with_reducible exact LeO.none _)
      | (with_reducible refine LeO.ite ?_ ?_)
      | (with_reducible refine LeO.bind ?_ (fun _ => ?_))
      | exact ih0 _ _
      | exact ih1 _ _
      | exact merkhetref01_May.mono _ _ _ _ _ _ _ _ _
      | exact LeO.none _
      | refine LeO.ite ?_ ?_
      | refine LeO.bind ?_ (fun _ => ?_)
    · intro y0 y1
      unfold merkhetref04_May.l0
      repeat' first
      | (with_reducible exact ih0 _ _)
      | (with_reducible exact ih1 _ _)
      | (with_reducible exact merkhetref01_May.mono _ _ _ _ _ _ _ _ _)
      | (with_reducible exact LeO.refl _)
      | (with_reducible exact LeO.none _)
      | (with_reducible refine LeO.ite ?_ ?_)
      | (with_reducible refine LeO.bind ?_ (fun _ => ?_))
      | exact ih0 _ _
      | exact ih1 _ _
      | exact merkhetref01_May.mono _ _ _ _ _ _ _ _ _
      | exact LeO.none _
      | refine LeO.ite ?_ ?_
      | refine LeO.bind ?_ (fun _ => ?_)
theorem merkhetref04_May.mono : ∀ a0 k, LeO (merkhetref04_May.f k a0) (merkhetref04_May.f (k + 1) a0) := by
  intro a0 k
  obtain ⟨ih0, ih1⟩ := merkhetref04_May.mono_l k
  unfold merkhetref04_May.f
  repeat' first
      | (with_reducible exact ih0 _ _)
      | (with_reducible exact ih1 _ _)
      | (with_reducible exact merkhetref01_May.mono _ _ _ _ _ _ _ _ _)
      | (with_reducible exact LeO.refl _)
      | (with_reducible exact LeO.none _)
      | (with_reducible refine LeO.ite ?_ ?_)
      | (with_reducible refine LeO.bind ?_ (fun _ => ?_))
      | exact ih0 _ _
      | exact ih1 _ _
      | exact merkhetref01_May.mono _ _ _ _ _ _ _ _ _
      | exact LeO.none _
      | refine LeO.ite ?_ ?_
      | refine LeO.bind ?_ (fun _ => ?_)
set_option maxHeartbeats 8000000 in
set_option maxRecDepth 100000 in
theorem merkhetref04_May.calls (k : Nat) (A0 : Option Addr) (c0 : Nat) (l0 : List (S77)) (r : Bool) (w : World) (hr0 : Kd.C k77 w A0 l0.length l0) (hc0 : l0.length ≤ c0) (h : merkhetref04_May.f k l0 = some r) :
    Calls Try.prog 47 #[.slice A0 l0.length c0] w fun e w' => e = .returned (.bool r) ∧ Below w.heap.size w w' := by
  have hu77 := Try.underlying77
  have HR0 := Aside0.mk hr0
  have HC0 := Aside0.mk hc0
  clear hr0 hc0
  have HB := Aside0.mk (Below.refl w.heap.size w)
  have H : (if (l0.length : Int) = 0 then (merkhetref04_May.j0 k l0 true) else (merkhetref04_May.j0 k l0 (decide ((l0.length : Int) > 32)))) = some r := h
  clear h
  have HC2 := Aside0.mk H
  clear H
  go_enter Try.func47, Try.ntmps47
  go_upto_region 1 with (fail)
  go_cut [11] (fun v11 wc => ∃ (kq : Nat) (x11_1 : Bool), v11 = .bool x11_1 ∧ Aside0 (merkhetref04_May.j0 kq l0 x11_1 = some r) ∧ Aside0 (kq ≤ k) ∧ Aside0 (Below w.heap.size w wc))
  case first =>
    have H := HC2.out
    clear HC2
    by_cases c3 : (l0.length : Int) = 0
    · rw [if_pos c3] at H
      have c3b0 : ((l0.length : Int) == 0) = true := beq_iff_eq.mpr c3
      have c3b1 : ((l0.length : Int) != 0) = false := bne_eq_false_iff_eq.mpr c3
      clear c3
      (first | rw [c3b0] | (simp only [i64_w, i32_w]; rw [c3b0]) | skip)
      have H' := Aside0.mk H
      clear H
      go_wp2
      go_meet
      case rel => exact ⟨_, (true), (by first | rfl | (simp; done) | (simp [*]; done)), H', ⟨by first | omega | exact Nat.le_refl _⟩, ⟨by repeat (first | (with_reducible first | exact HB.out | apply below_alloc | apply pw_below_drewN | apply below_drew1) | exact HB.out)⟩⟩
    · rw [if_neg c3] at H
      have c3b0 : ((l0.length : Int) == 0) = false := beq_eq_false_iff_ne.mpr c3
      have c3b1 : ((l0.length : Int) != 0) = true := bne_iff_ne.mpr c3
      have c3b2 : ¬ (l0 = []) := fun h_ => c3 (by rw [h_]; rfl)
      (first | rw [c3b0] | (simp only [i64_w, i32_w]; rw [c3b0]) | skip)
      have H' := Aside0.mk H
      clear H
      go_wp2
      go_meet
      case rel => exact ⟨_, (decide ((l0.length : Int) > 32)), (by first | rfl | (simp; done) | (simp [*]; done)), H', ⟨by first | omega | exact Nat.le_refl _⟩, ⟨by repeat (first | (with_reducible first | exact HB.out | apply below_alloc | apply pw_below_drewN | apply below_drew1) | exact HB.out)⟩⟩
  case rest =>
    clear HC2
    try clear p2
    try clear c3
    try clear c3b0
    try clear c3b1
    try clear c3b2
    obtain ⟨kq, x11_1, rfl, HA, HJ1, HB⟩ := hcut
    cases kq with
    | zero => exact absurd HA.out (by simp [merkhetref04_May.j0])
    | succ kj1 =>
      have H := HA.out
      clear HA
      simp only [merkhetref04_May.j0] at H
      by_cases c4 : x11_1 = true
      · subst c4
        have H1 : (some false) = some r := by rw [if_pos rfl] at H; exact H
        clear H
        have H := H1
        clear H1
        obtain rfl := Option.some.inj H
        go_wp2
        go_ret
        exact ⟨by first | rfl | (simp [errW_none, errW_some] <;> rfl) | (simp [*, errW_none, errW_some] <;> rfl), by repeat (first | (with_reducible first | exact HB.out | apply below_alloc | apply pw_below_drewN | apply below_drew1) | exact HB.out)⟩
      · replace c4 := Bool.eq_false_iff.mpr c4
        subst c4
        have H1 : (merkhetref04_May.l0 kj1 l0 0) = some r := by rw [if_neg (show ¬ (false = true) by decide)] at H; exact H
        clear H
        have H := H1
        clear H1
        have H' := Aside0.mk H
        clear H
        go_wp2
        go_loopg [3] kj1 (fun kq v3 w' => ∃ (x3_2 : Int), v3 = .int .i64 x3_2 ∧ Aside0 (merkhetref04_May.l0 kq l0 x3_2 = some r) ∧ Aside0 (kq ≤ kj1) ∧ Aside0 (Below w.heap.size w w'))
        case atStart => exact ⟨(0), (by first | rfl | (simp; done) | (simp [*]; done)), H', ⟨Nat.le_refl _⟩, ⟨by repeat (first | (with_reducible first | exact HB.out | apply below_alloc | apply pw_below_drewN | apply below_drew1) | exact HB.out)⟩⟩
        case round =>
          clear H'
          try clear p2
          try clear c3
          try clear c3b0
          try clear c3b1
          try clear c3b2
          try clear c4
          try clear p2
          obtain ⟨x3_2, rfl, HA, HK2, HB⟩ := hrel
          cases gk with
          | zero => exact absurd HA.out (by simp [merkhetref04_May.l0])
          | succ k2 =>
            have H := HA.out
            clear HA
            simp only [merkhetref04_May.l0] at H
            by_cases c5 : x3_2 < (l0.length : Int)
            · rw [if_pos c5] at H
              have c5b0 : decide (x3_2 < (l0.length : Int)) = true := decide_eq_true c5
              clear c5
              by_cases c6 : 0 ≤ x3_2
              · rw [if_pos c6] at H
                have c6b0 : decide (0 ≤ x3_2) = true := decide_eq_true c6
                clear c6
                replace H := Option.bind_eq_some_iff.mp H
                obtain ⟨t218, A70, H⟩ := H
                replace H : (if t218 = true then (merkhetref04_May.l0 k2 l0 (wrap64 (x3_2 + 1))) else (some false)) = some r := H
                have A7 := Aside0.mk A70
                clear A70
                by_cases c8 : t218 = true
                · subst c8
                  have H1 : (merkhetref04_May.l0 k2 l0 (wrap64 (x3_2 + 1))) = some r := by rw [if_pos rfl] at H; exact H
                  clear H
                  have H := H1
                  clear H1
                  have H' := Aside0.mk H
                  clear H
                  have p217 : 0 ≤ (x3_2 : Int) := of_decide_eq_true (by first | (with_reducible assumption) | assumption)
                  have q217 : x3_2 < (l0.length : Int) := of_decide_eq_true (by first | (with_reducible assumption) | assumption)
                  obtain ⟨ad217, e217, hx217_0, hx217_1, hx217_2, hx217_3, hx217_4, hx217_5, hx217_6, hx217_7⟩ := at_T77 HR0.out x3_2 p217 q217
                  cases e217
                  replace hx217_0 := (HB.out.cell (World.block_lt_of_cell? w _ hx217_0)).trans hx217_0
                  replace hx217_1 := (HB.out.cell (World.block_lt_of_cell? w _ hx217_1)).trans hx217_1
                  replace hx217_2 := (HB.out.cell (World.block_lt_of_cell? w _ hx217_2)).trans hx217_2
                  replace hx217_3 := (HB.out.cell (World.block_lt_of_cell? w _ hx217_3)).trans hx217_3
                  replace hx217_4 := (HB.out.cell (World.block_lt_of_cell? w _ hx217_4)).trans hx217_4
                  replace hx217_5 := (HB.out.cell (World.block_lt_of_cell? w _ hx217_5)).trans hx217_5
                  replace hx217_6 := (HB.out.cell (World.block_lt_of_cell? w _ hx217_6)).trans hx217_6
                  replace hx217_7 := (HB.out.cell (World.block_lt_of_cell? w _ hx217_7)).trans hx217_7
                  replace p217 := eq_true p217
                  replace q217 := eq_true q217
                  go_wp2_with (first | ((with_reducible refine gate_callee (f := 51) rfl ?_); refine goesL_ (some 22) rfl rfl Try.func51 (by kernel_rfl) rfl #[.agg #[.int .u64 ((rd_T77 l0 x3_2).f0), .int .u64 ((rd_T77 l0 x3_2).f1), .int .u64 ((rd_T77 l0 x3_2).f2), .int .u8 ((rd_T77 l0 x3_2).f3), .string ((rd_T77 l0 x3_2).f4), .string ((rd_T77 l0 x3_2).f5), .int .i64 ((rd_T77 l0 x3_2).f6), .int .i64 ((rd_T77 l0 x3_2).f7)]] rfl (by (try simp only [List.map_toArray, List.map_cons, List.map_nil]); first | done | rfl | (simp only [List.length_drop, List.length_take]; rfl)) ?_; (with_reducible refine (merkhetref01_May.calls k2 ((rd_T77 l0 x3_2).f0) ((rd_T77 l0 x3_2).f1) ((rd_T77 l0 x3_2).f2) ((rd_T77 l0 x3_2).f3) ((rd_T77 l0 x3_2).f4) ((rd_T77 l0 x3_2).f5) ((rd_T77 l0 x3_2).f6) ((rd_T77 l0 x3_2).f7) true _ A7.out).mono ?_); rintro e w9 ⟨rfl, hb⟩; refine ⟨_, rfl, ?_⟩; have n0_ := Aside0.mk (below_step (by repeat (first | (with_reducible first | exact HB.out | apply below_alloc | apply pw_below_drewN | apply below_drew1) | exact HB.out)) hb); clear HB; have HB := n0_; clear n0_; (try clear hb); (try clear hb2); (try clear hk); (try clear hi)))
                  go_roundg k2
                  case measure => have := HJ1.out; have := HK2.out; omega
                  case rel => exact ⟨(wrap64 (x3_2 + 1)), (by first | rfl | (simp; done) | (simp [*]; done)), H', ⟨by have := HJ1.out; have := HK2.out; omega⟩, ⟨by repeat (first | (with_reducible first | exact HB.out | apply below_alloc | apply pw_below_drewN | apply below_drew1) | exact HB.out)⟩⟩
                · replace c8 := Bool.eq_false_iff.mpr c8
                  subst c8
                  have H1 : (some false) = some r := by rw [if_neg (show ¬ (false = true) by decide)] at H; exact H
                  clear H
                  have H := H1
                  clear H1
                  obtain rfl := Option.some.inj H
                  have p217 : 0 ≤ (x3_2 : Int) := of_decide_eq_true (by first | (with_reducible assumption) | assumption)
                  have q217 : x3_2 < (l0.length : Int) := of_decide_eq_true (by first | (with_reducible assumption) | assumption)
                  obtain ⟨ad217, e217, hx217_0, hx217_1, hx217_2, hx217_3, hx217_4, hx217_5, hx217_6, hx217_7⟩ := at_T77 HR0.out x3_2 p217 q217
                  cases e217
                  replace hx217_0 := (HB.out.cell (World.block_lt_of_cell? w _ hx217_0)).trans hx217_0
                  replace hx217_1 := (HB.out.cell (World.block_lt_of_cell? w _ hx217_1)).trans hx217_1
                  replace hx217_2 := (HB.out.cell (World.block_lt_of_cell? w _ hx217_2)).trans hx217_2
                  replace hx217_3 := (HB.out.cell (World.block_lt_of_cell? w _ hx217_3)).trans hx217_3
                  replace hx217_4 := (HB.out.cell (World.block_lt_of_cell? w _ hx217_4)).trans hx217_4
                  replace hx217_5 := (HB.out.cell (World.block_lt_of_cell? w _ hx217_5)).trans hx217_5
                  replace hx217_6 := (HB.out.cell (World.block_lt_of_cell? w _ hx217_6)).trans hx217_6
                  replace hx217_7 := (HB.out.cell (World.block_lt_of_cell? w _ hx217_7)).trans hx217_7
                  replace p217 := eq_true p217
                  replace q217 := eq_true q217
                  go_wp2_with (first | ((with_reducible refine gate_callee (f := 51) rfl ?_); refine goesL_ (some 22) rfl rfl Try.func51 (by kernel_rfl) rfl #[.agg #[.int .u64 ((rd_T77 l0 x3_2).f0), .int .u64 ((rd_T77 l0 x3_2).f1), .int .u64 ((rd_T77 l0 x3_2).f2), .int .u8 ((rd_T77 l0 x3_2).f3), .string ((rd_T77 l0 x3_2).f4), .string ((rd_T77 l0 x3_2).f5), .int .i64 ((rd_T77 l0 x3_2).f6), .int .i64 ((rd_T77 l0 x3_2).f7)]] rfl (by (try simp only [List.map_toArray, List.map_cons, List.map_nil]); first | done | rfl | (simp only [List.length_drop, List.length_take]; rfl)) ?_; (with_reducible refine (merkhetref01_May.calls k2 ((rd_T77 l0 x3_2).f0) ((rd_T77 l0 x3_2).f1) ((rd_T77 l0 x3_2).f2) ((rd_T77 l0 x3_2).f3) ((rd_T77 l0 x3_2).f4) ((rd_T77 l0 x3_2).f5) ((rd_T77 l0 x3_2).f6) ((rd_T77 l0 x3_2).f7) false _ A7.out).mono ?_); rintro e w10 ⟨rfl, hb⟩; refine ⟨_, rfl, ?_⟩; have n0_ := Aside0.mk (below_step (by repeat (first | (with_reducible first | exact HB.out | apply below_alloc | apply pw_below_drewN | apply below_drew1) | exact HB.out)) hb); clear HB; have HB := n0_; clear n0_; (try clear hb); (try clear hb2); (try clear hk); (try clear hi)))
                  go_ret
                  exact ⟨by first | rfl | (simp [errW_none, errW_some] <;> rfl) | (simp [*, errW_none, errW_some] <;> rfl), by repeat (first | (with_reducible first | exact HB.out | apply below_alloc | apply pw_below_drewN | apply below_drew1) | exact HB.out)⟩
              · rw [if_neg c6] at H
                exact absurd H (by simp)
            · rw [if_neg c5] at H
              have c5b0 : decide (x3_2 < (l0.length : Int)) = false := decide_eq_false c5
              clear c5
              obtain rfl := Option.some.inj H
              go_wp2
              go_ret
              exact ⟨by first | rfl | (simp [errW_none, errW_some] <;> rfl) | (simp [*, errW_none, errW_some] <;> rfl), by repeat (first | (with_reducible first | exact HB.out | apply below_alloc | apply pw_below_drewN | apply below_drew1) | exact HB.out)⟩

/-! ### merkhetref02_PutText: function 63 -/
def merkhetref02_PutText.l0 : Nat → ByteArray → Option (ByteArray)
  | 0, _ => none
  | k + 1, x3 => if (x3.size : Int) < 17 then (if x3.size + 1 ≤ 9223372036854775807 then (merkhetref02_PutText.l0 k (x3 ++ (⟨#[0]⟩ : ByteArray))) else (none)) else (some x3)
def merkhetref02_PutText.f (k : Nat) (a0 : ByteArray) : Option (ByteArray) := if (a0.size : Int) > 16 then (some (⟨#[]⟩ : ByteArray)) else ((merkhetref02_Put.f k (IntKind.u64.wrap ((a0.size : Int))) 1).bind fun t219 => (if t219.size + a0.size ≤ 9223372036854775807 then (merkhetref02_PutText.l0 k (t219 ++ a0)) else (none)))
theorem merkhetref02_PutText.mono_l : ∀ k, (∀ y0, LeO (merkhetref02_PutText.l0 k y0) (merkhetref02_PutText.l0 (k + 1) y0))
  | 0 => fun _ r h => by simp [merkhetref02_PutText.l0] at h
  | k + 1 => by
    have ih0 := merkhetref02_PutText.mono_l k
    · intro y0
      unfold merkhetref02_PutText.l0
      repeat' first
      | (with_reducible exact ih0 _)
      | (with_reducible exact merkhetref02_Put.mono _ _ _)
      | (with_reducible exact LeO.refl _)
      | (with_reducible exact LeO.none _)
      | (with_reducible refine LeO.ite ?_ ?_)
      | (with_reducible refine LeO.bind ?_ (fun _ => ?_))
      | exact ih0 _
      | exact merkhetref02_Put.mono _ _ _
      | exact LeO.none _
      | refine LeO.ite ?_ ?_
      | refine LeO.bind ?_ (fun _ => ?_)
theorem merkhetref02_PutText.mono : ∀ a0 k, LeO (merkhetref02_PutText.f k a0) (merkhetref02_PutText.f (k + 1) a0) := by
  intro a0 k
  have ih0 := merkhetref02_PutText.mono_l k
  unfold merkhetref02_PutText.f
  repeat' first
      | (with_reducible exact ih0 _)
      | (with_reducible exact merkhetref02_Put.mono _ _ _)
      | (with_reducible exact LeO.refl _)
      | (with_reducible exact LeO.none _)
      | (with_reducible refine LeO.ite ?_ ?_)
      | (with_reducible refine LeO.bind ?_ (fun _ => ?_))
      | exact ih0 _
      | exact merkhetref02_Put.mono _ _ _
      | exact LeO.none _
      | refine LeO.ite ?_ ?_
      | refine LeO.bind ?_ (fun _ => ?_)
set_option maxHeartbeats 8000000 in
set_option maxRecDepth 100000 in
theorem merkhetref02_PutText.calls (k : Nat) (a0 : ByteArray) (r : ByteArray) (w : World) (h : merkhetref02_PutText.f k a0 = some r) :
    Calls Try.prog 63 #[.string a0] w fun e w' => e = .returned (.string r) ∧ Below w.heap.size w w' := by
  have HB := Aside0.mk (Below.refl w.heap.size w)
  have H : (if (a0.size : Int) > 16 then (some (⟨#[]⟩ : ByteArray)) else ((merkhetref02_Put.f k (IntKind.u64.wrap ((a0.size : Int))) 1).bind fun t219 => (if t219.size + a0.size ≤ 9223372036854775807 then (merkhetref02_PutText.l0 k (t219 ++ a0)) else (none)))) = some r := h
  clear h
  by_cases c2 : (a0.size : Int) > 16
  · rw [if_pos c2] at H
    have c2b0 : decide (16 < (a0.size : Int)) = true := decide_eq_true c2
    have c2b1 : decide (16 < a0.size) = true := decide_eq_true (by omega)
    clear c2
    obtain rfl := Option.some.inj H
    go_enter Try.func63, Try.ntmps63
    go_wp2
    go_ret
    exact ⟨by first | rfl | (simp [errW_none, errW_some] <;> rfl) | (simp [*, errW_none, errW_some] <;> rfl), by repeat (first | (with_reducible first | exact HB.out | apply below_alloc | apply pw_below_drewN | apply below_drew1) | exact HB.out)⟩
  · rw [if_neg c2] at H
    have c2b0 : decide (16 < (a0.size : Int)) = false := decide_eq_false c2
    have c2b1 : decide (16 < a0.size) = false := decide_eq_false (by omega)
    clear c2
    replace H := Option.bind_eq_some_iff.mp H
    obtain ⟨t219, A30, H⟩ := H
    replace H : (if t219.size + a0.size ≤ 9223372036854775807 then (merkhetref02_PutText.l0 k (t219 ++ a0)) else (none)) = some r := H
    have A3 := Aside0.mk A30
    clear A30
    by_cases c4 : t219.size + a0.size ≤ 9223372036854775807
    · rw [if_pos c4] at H
      have c4b0 := eq_true c4
      have c4b1 : decide (t219.size + a0.size ≤ 9223372036854775807) = true := decide_eq_true c4
      try have c4b2 : (9223372036854775807 < t219.size + a0.size) = False := eq_false (Nat.not_lt.2 c4)
      have H' := Aside0.mk H
      clear H
      go_enter Try.func63, Try.ntmps63
      go_wp2_with (first | ((with_reducible refine gate_callee (f := 41) rfl ?_); refine goesL_ (some 10) rfl rfl Try.func41 (by kernel_rfl) rfl #[.int .u64 (IntKind.u64.wrap ((a0.size : Int))), .int .i64 1] rfl (by (try simp only [List.map_toArray, List.map_cons, List.map_nil]); first | done | rfl | (simp only [List.length_drop, List.length_take]; rfl) | (rw [Go.Proofs.Ytdpodjgggicaoaa.H.u64_id _ (by simp only [decide_eq_false_iff_not, decide_eq_true_eq, Nat.not_lt, Int.not_lt] at *; omega) (by simp only [decide_eq_false_iff_not, decide_eq_true_eq, Nat.not_lt, Int.not_lt] at *; omega)]; rfl)) ?_; (with_reducible refine (merkhetref02_Put.calls k (IntKind.u64.wrap ((a0.size : Int))) 1 t219 _ A3.out).mono ?_); rintro e w5 ⟨rfl, hb⟩; refine ⟨_, rfl, ?_⟩; have n0_ := Aside0.mk (below_step (by repeat (first | (with_reducible first | exact HB.out | apply below_alloc | apply pw_below_drewN | apply below_drew1) | exact HB.out)) hb); clear HB; have HB := n0_; clear n0_; (try clear hb); (try clear hb2); (try clear hk); (try clear hi)))
      go_loopg [3] k (fun kq v3 w' => ∃ (x3_1 : ByteArray), v3 = .string x3_1 ∧ Aside0 (merkhetref02_PutText.l0 kq x3_1 = some r) ∧ Aside0 (kq ≤ k) ∧ Aside0 (Below w.heap.size w w'))
      case atStart => exact ⟨(t219 ++ a0), (by first | rfl | (simp; done) | (simp [*]; done)), H', ⟨Nat.le_refl _⟩, ⟨by repeat (first | (with_reducible first | exact HB.out | apply below_alloc | apply pw_below_drewN | apply below_drew1) | exact HB.out)⟩⟩
      case round =>
        clear H'
        try clear c2
        try clear c2b0
        try clear c2b1
        try clear p2
        try clear c4
        try clear c4b0
        try clear c4b1
        try clear c4b2
        obtain ⟨x3_1, rfl, HA, HK1, HB⟩ := hrel
        cases gk with
        | zero => exact absurd HA.out (by simp [merkhetref02_PutText.l0])
        | succ k1 =>
          have H := HA.out
          clear HA
          simp only [merkhetref02_PutText.l0] at H
          by_cases c6 : (x3_1.size : Int) < 17
          · rw [if_pos c6] at H
            have c6b0 : decide ((x3_1.size : Int) < 17) = true := decide_eq_true c6
            have c6b1 : decide (x3_1.size < 17) = true := decide_eq_true (by omega)
            clear c6
            by_cases c7 : x3_1.size + 1 ≤ 9223372036854775807
            · rw [if_pos c7] at H
              have c7b0 := eq_true c7
              have c7b1 : decide (x3_1.size + 1 ≤ 9223372036854775807) = true := decide_eq_true c7
              try have c7b2 : (9223372036854775807 < x3_1.size + 1) = False := eq_false (Nat.not_lt.2 c7)
              have H' := Aside0.mk H
              clear H
              go_wp2
              go_roundg k1
              case measure => have := HK1.out; omega
              case rel => exact ⟨(x3_1 ++ (⟨#[0]⟩ : ByteArray)), (by first | rfl | (simp; done) | (simp [*]; done)), H', ⟨by have := HK1.out; omega⟩, ⟨by repeat (first | (with_reducible first | exact HB.out | apply below_alloc | apply pw_below_drewN | apply below_drew1) | exact HB.out)⟩⟩
            · rw [if_neg c7] at H
              exact absurd H (by simp)
          · rw [if_neg c6] at H
            have c6b0 : decide ((x3_1.size : Int) < 17) = false := decide_eq_false c6
            have c6b1 : decide (x3_1.size < 17) = false := decide_eq_false (by omega)
            clear c6
            obtain rfl := Option.some.inj H
            go_wp2
            go_ret
            exact ⟨by first | rfl | (simp [errW_none, errW_some] <;> rfl) | (simp [*, errW_none, errW_some] <;> rfl), by repeat (first | (with_reducible first | exact HB.out | apply below_alloc | apply pw_below_drewN | apply below_drew1) | exact HB.out)⟩
    · rw [if_neg c4] at H
      exact absurd H (by simp)

/-! ### merkhetref04_Span: function 48 -/
def merkhetref04_Span.f (k : Nat) (a0_0 : Int) (a0_1 : Int) (a0_2 : Int) (a0_3 : Int) (a0_4 : ByteArray) (a0_5 : ByteArray) (a0_6 : Int) (a0_7 : Int) : Option (ByteArray) := (merkhetref02_Put.f k a0_0 8).bind fun t221 => ((merkhetref02_Put.f k a0_1 8).bind fun t222 => (if t221.size + t222.size ≤ 9223372036854775807 then ((merkhetref02_Put.f k a0_2 8).bind fun t223 => (if (t221 ++ t222).size + t223.size ≤ 9223372036854775807 then ((merkhetref02_Put.f k (IntKind.u64.wrap (a0_3)) 1).bind fun t224 => (if ((t221 ++ t222) ++ t223).size + t224.size ≤ 9223372036854775807 then ((merkhetref02_Put.f k (IntKind.u64.wrap (a0_6)) 8).bind fun t225 => (if (((t221 ++ t222) ++ t223) ++ t224).size + t225.size ≤ 9223372036854775807 then ((merkhetref02_Put.f k (IntKind.u64.wrap (a0_7)) 8).bind fun t226 => (if ((((t221 ++ t222) ++ t223) ++ t224) ++ t225).size + t226.size ≤ 9223372036854775807 then ((merkhetref02_PutText.f k a0_4).bind fun t227 => (if (((((t221 ++ t222) ++ t223) ++ t224) ++ t225) ++ t226).size + t227.size ≤ 9223372036854775807 then ((merkhetref02_PutText.f k a0_5).bind fun t228 => (if ((((((t221 ++ t222) ++ t223) ++ t224) ++ t225) ++ t226) ++ t227).size + t228.size ≤ 9223372036854775807 then (some (((((((t221 ++ t222) ++ t223) ++ t224) ++ t225) ++ t226) ++ t227) ++ t228)) else (none))) else (none))) else (none))) else (none))) else (none))) else (none))) else (none)))
theorem merkhetref04_Span.mono : ∀ a0 a1 a2 a3 a4 a5 a6 a7 k, LeO (merkhetref04_Span.f k a0 a1 a2 a3 a4 a5 a6 a7) (merkhetref04_Span.f (k + 1) a0 a1 a2 a3 a4 a5 a6 a7) := by
  intro a0 a1 a2 a3 a4 a5 a6 a7 k
  unfold merkhetref04_Span.f
  repeat' first
      | (with_reducible exact merkhetref02_Put.mono _ _ _)
      | (with_reducible exact merkhetref02_PutText.mono _ _)
      | (with_reducible exact LeO.refl _)
      | (with_reducible exact LeO.none _)
      | (with_reducible refine LeO.ite ?_ ?_)
      | (with_reducible refine LeO.bind ?_ (fun _ => ?_))
      | exact merkhetref02_Put.mono _ _ _
      | exact merkhetref02_PutText.mono _ _
      | exact LeO.none _
      | refine LeO.ite ?_ ?_
      | refine LeO.bind ?_ (fun _ => ?_)
def merkhetref04_Span.T1 : Bool × List (List Nat × List Nat) := (true, [([], []), ([0], [0]), ([1], [1]), ([], []), ([3], [3]), ([4, 2], [4]), ([2, 5], [2, 5]), ([], []), ([7], [7]), ([8, 5], [8]), ([6, 9], [6, 9]), ([], []), ([11], [11]), ([12], [12]), ([13, 9], [13]), ([10, 14], [10, 14]), ([], []), ([16], [16]), ([17], [17]), ([18, 14], [18]), ([15, 19], [15, 19]), ([], []), ([21], [21]), ([22], [22]), ([23, 19], [23]), ([20, 24], [20, 24]), ([], []), ([26], [26]), ([27, 24], [27]), ([25, 28], [25, 28]), ([], []), ([30], [30]), ([31, 28], [31]), ([29, 32], [29, 32]), ([33, 32, 0, 1, 2, 3, 4, 5, 6, 7, 8, 9, 10, 11, 12, 13, 14, 15, 16, 17, 18, 19, 20, 21, 22, 23, 24, 25, 26, 27, 28, 29, 30, 31, 32, 33], [33])])
def merkhetref04_Span.B1 : List Nat := [0, 1, 3, 0, 8, 31, 63, 0, 128, 447, 1023, 0, 2048, 6144, 15295, 32767, 0, 65536, 196608, 490431, 1048575, 0, 2097152, 6291456, 15694783, 33554431, 0, 67108864, 233798591, 536870911, 0, 1073741824, 3723459519, 8589934591, 17179869183]
theorem merkhetref04_Span.tab1 : rtab .any (opsOf Try.f48 1) = merkhetref04_Span.T1 := by kernel_rfl
theorem merkhetref04_Span.bits1 : waitsOk merkhetref04_Span.T1.2 merkhetref04_Span.B1 = true := by kernel_rfl
set_option maxHeartbeats 8000000 in
set_option maxRecDepth 100000 in
theorem merkhetref04_Span.calls (k : Nat) (a0_0 : Int) (a0_1 : Int) (a0_2 : Int) (a0_3 : Int) (a0_4 : ByteArray) (a0_5 : ByteArray) (a0_6 : Int) (a0_7 : Int) (r : ByteArray) (w : World) (h : merkhetref04_Span.f k a0_0 a0_1 a0_2 a0_3 a0_4 a0_5 a0_6 a0_7 = some r) :
    Calls Try.prog 48 #[.agg #[.int .u64 a0_0, .int .u64 a0_1, .int .u64 a0_2, .int .u8 a0_3, .string a0_4, .string a0_5, .int .i64 a0_6, .int .i64 a0_7]] w fun e w' => e = .returned (.string r) ∧ Below w.heap.size w w' := by
  have hu77 := Try.underlying77
  have HB := Aside0.mk (Below.refl w.heap.size w)
  have H : ((merkhetref02_Put.f k a0_0 8).bind fun t221 => ((merkhetref02_Put.f k a0_1 8).bind fun t222 => (if t221.size + t222.size ≤ 9223372036854775807 then ((merkhetref02_Put.f k a0_2 8).bind fun t223 => (if (t221 ++ t222).size + t223.size ≤ 9223372036854775807 then ((merkhetref02_Put.f k (IntKind.u64.wrap (a0_3)) 1).bind fun t224 => (if ((t221 ++ t222) ++ t223).size + t224.size ≤ 9223372036854775807 then ((merkhetref02_Put.f k (IntKind.u64.wrap (a0_6)) 8).bind fun t225 => (if (((t221 ++ t222) ++ t223) ++ t224).size + t225.size ≤ 9223372036854775807 then ((merkhetref02_Put.f k (IntKind.u64.wrap (a0_7)) 8).bind fun t226 => (if ((((t221 ++ t222) ++ t223) ++ t224) ++ t225).size + t226.size ≤ 9223372036854775807 then ((merkhetref02_PutText.f k a0_4).bind fun t227 => (if (((((t221 ++ t222) ++ t223) ++ t224) ++ t225) ++ t226).size + t227.size ≤ 9223372036854775807 then ((merkhetref02_PutText.f k a0_5).bind fun t228 => (if ((((((t221 ++ t222) ++ t223) ++ t224) ++ t225) ++ t226) ++ t227).size + t228.size ≤ 9223372036854775807 then (some (((((((t221 ++ t222) ++ t223) ++ t224) ++ t225) ++ t226) ++ t227) ++ t228)) else (none))) else (none))) else (none))) else (none))) else (none))) else (none))) else (none)))) = some r := h
  clear h
  replace H := Option.bind_eq_some_iff.mp H
  obtain ⟨t221, A20, H⟩ := H
  replace H : ((merkhetref02_Put.f k a0_1 8).bind fun t222 => (if t221.size + t222.size ≤ 9223372036854775807 then ((merkhetref02_Put.f k a0_2 8).bind fun t223 => (if (t221 ++ t222).size + t223.size ≤ 9223372036854775807 then ((merkhetref02_Put.f k (IntKind.u64.wrap (a0_3)) 1).bind fun t224 => (if ((t221 ++ t222) ++ t223).size + t224.size ≤ 9223372036854775807 then ((merkhetref02_Put.f k (IntKind.u64.wrap (a0_6)) 8).bind fun t225 => (if (((t221 ++ t222) ++ t223) ++ t224).size + t225.size ≤ 9223372036854775807 then ((merkhetref02_Put.f k (IntKind.u64.wrap (a0_7)) 8).bind fun t226 => (if ((((t221 ++ t222) ++ t223) ++ t224) ++ t225).size + t226.size ≤ 9223372036854775807 then ((merkhetref02_PutText.f k a0_4).bind fun t227 => (if (((((t221 ++ t222) ++ t223) ++ t224) ++ t225) ++ t226).size + t227.size ≤ 9223372036854775807 then ((merkhetref02_PutText.f k a0_5).bind fun t228 => (if ((((((t221 ++ t222) ++ t223) ++ t224) ++ t225) ++ t226) ++ t227).size + t228.size ≤ 9223372036854775807 then (some (((((((t221 ++ t222) ++ t223) ++ t224) ++ t225) ++ t226) ++ t227) ++ t228)) else (none))) else (none))) else (none))) else (none))) else (none))) else (none))) else (none))) = some r := H
  have A2 := Aside0.mk A20
  clear A20
  replace H := Option.bind_eq_some_iff.mp H
  obtain ⟨t222, A30, H⟩ := H
  replace H : (if t221.size + t222.size ≤ 9223372036854775807 then ((merkhetref02_Put.f k a0_2 8).bind fun t223 => (if (t221 ++ t222).size + t223.size ≤ 9223372036854775807 then ((merkhetref02_Put.f k (IntKind.u64.wrap (a0_3)) 1).bind fun t224 => (if ((t221 ++ t222) ++ t223).size + t224.size ≤ 9223372036854775807 then ((merkhetref02_Put.f k (IntKind.u64.wrap (a0_6)) 8).bind fun t225 => (if (((t221 ++ t222) ++ t223) ++ t224).size + t225.size ≤ 9223372036854775807 then ((merkhetref02_Put.f k (IntKind.u64.wrap (a0_7)) 8).bind fun t226 => (if ((((t221 ++ t222) ++ t223) ++ t224) ++ t225).size + t226.size ≤ 9223372036854775807 then ((merkhetref02_PutText.f k a0_4).bind fun t227 => (if (((((t221 ++ t222) ++ t223) ++ t224) ++ t225) ++ t226).size + t227.size ≤ 9223372036854775807 then ((merkhetref02_PutText.f k a0_5).bind fun t228 => (if ((((((t221 ++ t222) ++ t223) ++ t224) ++ t225) ++ t226) ++ t227).size + t228.size ≤ 9223372036854775807 then (some (((((((t221 ++ t222) ++ t223) ++ t224) ++ t225) ++ t226) ++ t227) ++ t228)) else (none))) else (none))) else (none))) else (none))) else (none))) else (none))) else (none)) = some r := H
  have A3 := Aside0.mk A30
  clear A30
  by_cases c4 : t221.size + t222.size ≤ 9223372036854775807
  · rw [if_pos c4] at H
    have c4b0 := eq_true c4
    have c4b1 : decide (t221.size + t222.size ≤ 9223372036854775807) = true := decide_eq_true c4
    try have c4b2 : (9223372036854775807 < t221.size + t222.size) = False := eq_false (Nat.not_lt.2 c4)
    replace H := Option.bind_eq_some_iff.mp H
    obtain ⟨t223, A50, H⟩ := H
    replace H : (if (t221 ++ t222).size + t223.size ≤ 9223372036854775807 then ((merkhetref02_Put.f k (IntKind.u64.wrap (a0_3)) 1).bind fun t224 => (if ((t221 ++ t222) ++ t223).size + t224.size ≤ 9223372036854775807 then ((merkhetref02_Put.f k (IntKind.u64.wrap (a0_6)) 8).bind fun t225 => (if (((t221 ++ t222) ++ t223) ++ t224).size + t225.size ≤ 9223372036854775807 then ((merkhetref02_Put.f k (IntKind.u64.wrap (a0_7)) 8).bind fun t226 => (if ((((t221 ++ t222) ++ t223) ++ t224) ++ t225).size + t226.size ≤ 9223372036854775807 then ((merkhetref02_PutText.f k a0_4).bind fun t227 => (if (((((t221 ++ t222) ++ t223) ++ t224) ++ t225) ++ t226).size + t227.size ≤ 9223372036854775807 then ((merkhetref02_PutText.f k a0_5).bind fun t228 => (if ((((((t221 ++ t222) ++ t223) ++ t224) ++ t225) ++ t226) ++ t227).size + t228.size ≤ 9223372036854775807 then (some (((((((t221 ++ t222) ++ t223) ++ t224) ++ t225) ++ t226) ++ t227) ++ t228)) else (none))) else (none))) else (none))) else (none))) else (none))) else (none)) = some r := H
    have A5 := Aside0.mk A50
    clear A50
    by_cases c6 : (t221 ++ t222).size + t223.size ≤ 9223372036854775807
    · rw [if_pos c6] at H
      have c6b0 := eq_true c6
      have c6b1 : decide ((t221 ++ t222).size + t223.size ≤ 9223372036854775807) = true := decide_eq_true c6
      try have c6b2 : (9223372036854775807 < (t221 ++ t222).size + t223.size) = False := eq_false (Nat.not_lt.2 c6)
      have c6b8 : (9223372036854775807 < t221.size + t222.size + t223.size) = False := by have h_ := c6b2; simp only [ByteArray.size_append] at h_; exact h_
      replace H := Option.bind_eq_some_iff.mp H
      obtain ⟨t224, A70, H⟩ := H
      replace H : (if ((t221 ++ t222) ++ t223).size + t224.size ≤ 9223372036854775807 then ((merkhetref02_Put.f k (IntKind.u64.wrap (a0_6)) 8).bind fun t225 => (if (((t221 ++ t222) ++ t223) ++ t224).size + t225.size ≤ 9223372036854775807 then ((merkhetref02_Put.f k (IntKind.u64.wrap (a0_7)) 8).bind fun t226 => (if ((((t221 ++ t222) ++ t223) ++ t224) ++ t225).size + t226.size ≤ 9223372036854775807 then ((merkhetref02_PutText.f k a0_4).bind fun t227 => (if (((((t221 ++ t222) ++ t223) ++ t224) ++ t225) ++ t226).size + t227.size ≤ 9223372036854775807 then ((merkhetref02_PutText.f k a0_5).bind fun t228 => (if ((((((t221 ++ t222) ++ t223) ++ t224) ++ t225) ++ t226) ++ t227).size + t228.size ≤ 9223372036854775807 then (some (((((((t221 ++ t222) ++ t223) ++ t224) ++ t225) ++ t226) ++ t227) ++ t228)) else (none))) else (none))) else (none))) else (none))) else (none)) = some r := H
      have A7 := Aside0.mk A70
      clear A70
      by_cases c8 : ((t221 ++ t222) ++ t223).size + t224.size ≤ 9223372036854775807
      · rw [if_pos c8] at H
        have c8b0 := eq_true c8
        have c8b1 : decide (((t221 ++ t222) ++ t223).size + t224.size ≤ 9223372036854775807) = true := decide_eq_true c8
        try have c8b2 : (9223372036854775807 < ((t221 ++ t222) ++ t223).size + t224.size) = False := eq_false (Nat.not_lt.2 c8)
        have c8b8 : (9223372036854775807 < t221.size + t222.size + t223.size + t224.size) = False := by have h_ := c8b2; simp only [ByteArray.size_append] at h_; exact h_
        replace H := Option.bind_eq_some_iff.mp H
        obtain ⟨t225, A90, H⟩ := H
        replace H : (if (((t221 ++ t222) ++ t223) ++ t224).size + t225.size ≤ 9223372036854775807 then ((merkhetref02_Put.f k (IntKind.u64.wrap (a0_7)) 8).bind fun t226 => (if ((((t221 ++ t222) ++ t223) ++ t224) ++ t225).size + t226.size ≤ 9223372036854775807 then ((merkhetref02_PutText.f k a0_4).bind fun t227 => (if (((((t221 ++ t222) ++ t223) ++ t224) ++ t225) ++ t226).size + t227.size ≤ 9223372036854775807 then ((merkhetref02_PutText.f k a0_5).bind fun t228 => (if ((((((t221 ++ t222) ++ t223) ++ t224) ++ t225) ++ t226) ++ t227).size + t228.size ≤ 9223372036854775807 then (some (((((((t221 ++ t222) ++ t223) ++ t224) ++ t225) ++ t226) ++ t227) ++ t228)) else (none))) else (none))) else (none))) else (none)) = some r := H
        have A9 := Aside0.mk A90
        clear A90
        by_cases c10 : (((t221 ++ t222) ++ t223) ++ t224).size + t225.size ≤ 9223372036854775807
        · rw [if_pos c10] at H
          have c10b0 := eq_true c10
          have c10b1 : decide ((((t221 ++ t222) ++ t223) ++ t224).size + t225.size ≤ 9223372036854775807) = true := decide_eq_true c10
          try have c10b2 : (9223372036854775807 < (((t221 ++ t222) ++ t223) ++ t224).size + t225.size) = False := eq_false (Nat.not_lt.2 c10)
          have c10b8 : (9223372036854775807 < t221.size + t222.size + t223.size + t224.size + t225.size) = False := by have h_ := c10b2; simp only [ByteArray.size_append] at h_; exact h_
          replace H := Option.bind_eq_some_iff.mp H
          obtain ⟨t226, A110, H⟩ := H
          replace H : (if ((((t221 ++ t222) ++ t223) ++ t224) ++ t225).size + t226.size ≤ 9223372036854775807 then ((merkhetref02_PutText.f k a0_4).bind fun t227 => (if (((((t221 ++ t222) ++ t223) ++ t224) ++ t225) ++ t226).size + t227.size ≤ 9223372036854775807 then ((merkhetref02_PutText.f k a0_5).bind fun t228 => (if ((((((t221 ++ t222) ++ t223) ++ t224) ++ t225) ++ t226) ++ t227).size + t228.size ≤ 9223372036854775807 then (some (((((((t221 ++ t222) ++ t223) ++ t224) ++ t225) ++ t226) ++ t227) ++ t228)) else (none))) else (none))) else (none)) = some r := H
          have A11 := Aside0.mk A110
          clear A110
          by_cases c12 : ((((t221 ++ t222) ++ t223) ++ t224) ++ t225).size + t226.size ≤ 9223372036854775807
          · rw [if_pos c12] at H
            have c12b0 := eq_true c12
            have c12b1 : decide (((((t221 ++ t222) ++ t223) ++ t224) ++ t225).size + t226.size ≤ 9223372036854775807) = true := decide_eq_true c12
            try have c12b2 : (9223372036854775807 < ((((t221 ++ t222) ++ t223) ++ t224) ++ t225).size + t226.size) = False := eq_false (Nat.not_lt.2 c12)
            have c12b8 : (9223372036854775807 < t221.size + t222.size + t223.size + t224.size + t225.size + t226.size) = False := by have h_ := c12b2; simp only [ByteArray.size_append] at h_; exact h_
            replace H := Option.bind_eq_some_iff.mp H
            obtain ⟨t227, A130, H⟩ := H
            replace H : (if (((((t221 ++ t222) ++ t223) ++ t224) ++ t225) ++ t226).size + t227.size ≤ 9223372036854775807 then ((merkhetref02_PutText.f k a0_5).bind fun t228 => (if ((((((t221 ++ t222) ++ t223) ++ t224) ++ t225) ++ t226) ++ t227).size + t228.size ≤ 9223372036854775807 then (some (((((((t221 ++ t222) ++ t223) ++ t224) ++ t225) ++ t226) ++ t227) ++ t228)) else (none))) else (none)) = some r := H
            have A13 := Aside0.mk A130
            clear A130
            by_cases c14 : (((((t221 ++ t222) ++ t223) ++ t224) ++ t225) ++ t226).size + t227.size ≤ 9223372036854775807
            · rw [if_pos c14] at H
              have c14b0 := eq_true c14
              have c14b1 : decide ((((((t221 ++ t222) ++ t223) ++ t224) ++ t225) ++ t226).size + t227.size ≤ 9223372036854775807) = true := decide_eq_true c14
              try have c14b2 : (9223372036854775807 < (((((t221 ++ t222) ++ t223) ++ t224) ++ t225) ++ t226).size + t227.size) = False := eq_false (Nat.not_lt.2 c14)
              have c14b8 : (9223372036854775807 < t221.size + t222.size + t223.size + t224.size + t225.size + t226.size + t227.size) = False := by have h_ := c14b2; simp only [ByteArray.size_append] at h_; exact h_
              replace H := Option.bind_eq_some_iff.mp H
              obtain ⟨t228, A150, H⟩ := H
              replace H : (if ((((((t221 ++ t222) ++ t223) ++ t224) ++ t225) ++ t226) ++ t227).size + t228.size ≤ 9223372036854775807 then (some (((((((t221 ++ t222) ++ t223) ++ t224) ++ t225) ++ t226) ++ t227) ++ t228)) else (none)) = some r := H
              have A15 := Aside0.mk A150
              clear A150
              by_cases c16 : ((((((t221 ++ t222) ++ t223) ++ t224) ++ t225) ++ t226) ++ t227).size + t228.size ≤ 9223372036854775807
              · rw [if_pos c16] at H
                have c16b0 := eq_true c16
                have c16b1 : decide (((((((t221 ++ t222) ++ t223) ++ t224) ++ t225) ++ t226) ++ t227).size + t228.size ≤ 9223372036854775807) = true := decide_eq_true c16
                try have c16b2 : (9223372036854775807 < ((((((t221 ++ t222) ++ t223) ++ t224) ++ t225) ++ t226) ++ t227).size + t228.size) = False := eq_false (Nat.not_lt.2 c16)
                have c16b8 : (9223372036854775807 < t221.size + t222.size + t223.size + t224.size + t225.size + t226.size + t227.size + t228.size) = False := by have h_ := c16b2; simp only [ByteArray.size_append] at h_; exact h_
                obtain rfl := Option.some.inj H
                go_enter Try.func48, Try.ntmps48
                try go_wp2_with (first | ((with_reducible refine gate_dst (N := 1) rfl ?_); refine box_event ?hg (N := 1) ?hd (cs := #[.int .u64 a0_0, .int .u64 a0_1, .int .u64 a0_2, .int .u8 a0_3, .string a0_4, .string a0_5, .int .i64 a0_6, .int .i64 a0_7]) (t := 77) ?hr ?_; (case hd => rfl); (case hg => rfl); (case hr => first | (go_simp; done) | (go_simp; rfl)); intro gb220 hg w17 hbox hb; have n0_ := Aside0.mk (below_step (by repeat (first | (with_reducible first | exact HB.out | apply below_alloc | apply pw_below_drewN | apply below_drew1) | exact HB.out)) hb); have n1_ := Aside0.mk (hbox); have n2_ := Aside0.mk ((by rw [hg]; exact (below_size (by repeat (first | (with_reducible first | exact HB.out | apply below_alloc | apply pw_below_drewN | apply below_drew1) | exact HB.out))) : w.heap.size ≤ gb220)); have n3_ := Aside0.mk ((by rw [hg]; exact (below_size (by repeat (first | (with_reducible first | exact HB.out | apply below_alloc | apply pw_below_drewN | apply below_drew1) | exact HB.out))) : w.heap.size ≤ gb220)); clear HB; have HB := n0_; have BK220 := n1_; have GW220 := n2_; have GE220 := n3_; clear n0_ n1_ n2_ n3_; clear hb hbox hg))
                (try (rw [drewN_self w17]; generalize hq_ : World.drewN w17 _ = w17; have n0_ : Aside0 (w17.heap[gb220]? = some (.cells #[.int .u64 a0_0, .int .u64 a0_1, .int .u64 a0_2, .int .u8 a0_3, .string a0_4, .string a0_5, .int .i64 a0_6, .int .i64 a0_7] 77 (0, 0))) := ⟨by rw [← hq_]; exact (by (with_reducible repeat (first | refine blk_drewN ?_ _ | refine blk_drew ?_ | refine blk_alloc ?_ _)); exact BK220.out)⟩; have n1_ : Aside0 (Below w.heap.size w w17) := ⟨by rw [← hq_]; exact (by repeat (first | (with_reducible first | exact HB.out | apply below_alloc | apply pw_below_drewN | apply below_drew1 | refine below_set ?_ GE220.out) | exact HB.out))⟩; clear BK220 HB hq_; have BK220 := n0_; have HB := n1_; clear n0_ n1_))
                have n0_ := Aside0.mk (blk_drew BK220.out)
                have n1_ := Aside0.mk (below_drew1 HB.out)
                clear BK220
                clear HB
                have BK220 := n0_
                have HB := n1_
                clear n0_ n1_
                refine start_ (n := 35) (S := fun w' => w'.cell? ⟨gb220, 0, none⟩ = some (.int .u64 a0_0) ∧ w'.cell? ⟨gb220, 1, none⟩ = some (.int .u64 a0_1) ∧ w'.cell? ⟨gb220, 2, none⟩ = some (.int .u64 a0_2) ∧ w'.cell? ⟨gb220, 3, none⟩ = some (.int .u8 a0_3) ∧ w'.cell? ⟨gb220, 4, none⟩ = some (.string a0_4) ∧ w'.cell? ⟨gb220, 5, none⟩ = some (.string a0_5) ∧ w'.cell? ⟨gb220, 6, none⟩ = some (.int .i64 a0_6) ∧ w'.cell? ⟨gb220, 7, none⟩ = some (.int .i64 a0_7)) (ds := []) #[false, false, false, false, false, false, false, false, false, false, false, false, false, false, false, false, false, false, false, false, false, false, false, false, false, false, false, false, false, false, false, false, false, false, false] (by kernel_rfl) rfl rfl ⟨(blk_cell BK220.out 0).trans rfl, (blk_cell BK220.out 1).trans rfl, (blk_cell BK220.out 2).trans rfl, (blk_cell BK220.out 3).trans rfl, (blk_cell BK220.out 4).trans rfl, (blk_cell BK220.out 5).trans rfl, (blk_cell BK220.out 6).trans rfl, (blk_cell BK220.out 7).trans rfl⟩ (fun hHeld => ?_); refine with_tabW merkhetref04_Span.tab1 merkhetref04_Span.bits1 (fun HT_ HW_ => ?_)
                generalize w17.drew = w18 at BK220 HB hHeld ⊢
                refine pure_ (i := 0) (N := some 3) (v := ?_) (a' := ?_) #[true, false, false, false, false, false, false, false, false, false, false, false, false, false, false, false, false, false, false, false, false, false, false, false, false, false, false, false, false, false, false, false, false, false, false] rfl rfl (any_of HT_.out (by kernel_rfl)) (fun _ _ _ h => h) (Or.inl ⟨by rfl, ?_⟩) ?_ ?_
                rotate_left
                · intro w'
                  go_simp
                  with_reducible rfl
                rotate_left
                · simp only [Act.put, List.setIfInBounds_toArray, List.set_cons_zero, List.set_cons_succ, i64_w, i32_w]
                  rfl
                refine pure_ (i := 3) (N := some 6) (v := ?_) (a' := ?_) #[true, false, false, true, false, false, false, false, false, false, false, false, false, false, false, false, false, false, false, false, false, false, false, false, false, false, false, false, false, false, false, false, false, false, false] rfl rfl (any_of HT_.out (by kernel_rfl)) (fun _ _ _ h => h) (Or.inl ⟨by rfl, ?_⟩) ?_ ?_
                rotate_left
                · intro w'
                  go_simp
                  with_reducible rfl
                rotate_left
                · simp only [Act.put, List.setIfInBounds_toArray, List.set_cons_zero, List.set_cons_succ, i64_w, i32_w]
                  rfl
                refine pure_ (i := 7) (N := some 10) (v := ?_) (a' := ?_) #[true, false, false, true, false, false, false, true, false, false, false, false, false, false, false, false, false, false, false, false, false, false, false, false, false, false, false, false, false, false, false, false, false, false, false] rfl rfl (any_of HT_.out (by kernel_rfl)) (fun _ _ _ h => h) (Or.inl ⟨by rfl, ?_⟩) ?_ ?_
                rotate_left
                · intro w'
                  go_simp
                  with_reducible rfl
                rotate_left
                · simp only [Act.put, List.setIfInBounds_toArray, List.set_cons_zero, List.set_cons_succ, i64_w, i32_w]
                  rfl
                refine pure_ (i := 11) (N := some 14) (v := ?_) (a' := ?_) #[true, false, false, true, false, false, false, true, false, false, false, true, false, false, false, false, false, false, false, false, false, false, false, false, false, false, false, false, false, false, false, false, false, false, false] rfl rfl (any_of HT_.out (by kernel_rfl)) (fun _ _ _ h => h) (Or.inl ⟨by rfl, ?_⟩) ?_ ?_
                rotate_left
                · intro w'
                  go_simp
                  with_reducible rfl
                rotate_left
                · simp only [Act.put, List.setIfInBounds_toArray, List.set_cons_zero, List.set_cons_succ, i64_w, i32_w]
                  rfl
                refine pure_ (i := 16) (N := some 19) (v := ?_) (a' := ?_) #[true, false, false, true, false, false, false, true, false, false, false, true, false, false, false, false, true, false, false, false, false, false, false, false, false, false, false, false, false, false, false, false, false, false, false] rfl rfl (any_of HT_.out (by kernel_rfl)) (fun _ _ _ h => h) (Or.inl ⟨by rfl, ?_⟩) ?_ ?_
                rotate_left
                · intro w'
                  go_simp
                  with_reducible rfl
                rotate_left
                · simp only [Act.put, List.setIfInBounds_toArray, List.set_cons_zero, List.set_cons_succ, i64_w, i32_w]
                  rfl
                refine pure_ (i := 21) (N := some 24) (v := ?_) (a' := ?_) #[true, false, false, true, false, false, false, true, false, false, false, true, false, false, false, false, true, false, false, false, false, true, false, false, false, false, false, false, false, false, false, false, false, false, false] rfl rfl (any_of HT_.out (by kernel_rfl)) (fun _ _ _ h => h) (Or.inl ⟨by rfl, ?_⟩) ?_ ?_
                rotate_left
                · intro w'
                  go_simp
                  with_reducible rfl
                rotate_left
                · simp only [Act.put, List.setIfInBounds_toArray, List.set_cons_zero, List.set_cons_succ, i64_w, i32_w]
                  rfl
                refine pure_ (i := 26) (N := some 29) (v := ?_) (a' := ?_) #[true, false, false, true, false, false, false, true, false, false, false, true, false, false, false, false, true, false, false, false, false, true, false, false, false, false, true, false, false, false, false, false, false, false, false] rfl rfl (any_of HT_.out (by kernel_rfl)) (fun _ _ _ h => h) (Or.inl ⟨by rfl, ?_⟩) ?_ ?_
                rotate_left
                · intro w'
                  go_simp
                  with_reducible rfl
                rotate_left
                · simp only [Act.put, List.setIfInBounds_toArray, List.set_cons_zero, List.set_cons_succ, i64_w, i32_w]
                  rfl
                refine pure_ (i := 30) (N := some 33) (v := ?_) (a' := ?_) #[true, false, false, true, false, false, false, true, false, false, false, true, false, false, false, false, true, false, false, false, false, true, false, false, false, false, true, false, false, false, true, false, false, false, false] rfl rfl (any_of HT_.out (by kernel_rfl)) (fun _ _ _ h => h) (Or.inl ⟨by rfl, ?_⟩) ?_ ?_
                rotate_left
                · intro w'
                  go_simp
                  with_reducible rfl
                rotate_left
                · simp only [Act.put, List.setIfInBounds_toArray, List.set_cons_zero, List.set_cons_succ, i64_w, i32_w]
                  rfl
                refine take_ (i := 1) (N := some 4) (v := ?_) (a' := ?_) #[true, true, false, true, false, false, false, true, false, false, false, true, false, false, false, false, true, false, false, false, false, true, false, false, false, false, true, false, false, false, true, false, false, false, false] rfl rfl (take_ofW HT_.out HW_.out (by kernel_rfl)) (fun _ _ _ h => h) (Or.inl ⟨by rfl, ?_⟩) hHeld ?_ ?_
                rotate_left
                · rintro w' ⟨s0, s1, s2, s3, s4, s5, s6, s7⟩
                  go_simp
                  with_reducible rfl
                rotate_left
                · simp only [Act.put, List.setIfInBounds_toArray, List.set_cons_zero, List.set_cons_succ, i64_w, i32_w]
                  rfl
                refine take_ (i := 4) (N := some 7) (v := ?_) (a' := ?_) #[true, true, false, true, true, false, false, true, false, false, false, true, false, false, false, false, true, false, false, false, false, true, false, false, false, false, true, false, false, false, true, false, false, false, false] rfl rfl (take_ofW HT_.out HW_.out (by kernel_rfl)) (fun _ _ _ h => h) (Or.inl ⟨by rfl, ?_⟩) hHeld ?_ ?_
                rotate_left
                · rintro w' ⟨s0, s1, s2, s3, s4, s5, s6, s7⟩
                  go_simp
                  with_reducible rfl
                rotate_left
                · simp only [Act.put, List.setIfInBounds_toArray, List.set_cons_zero, List.set_cons_succ, i64_w, i32_w]
                  rfl
                refine take_ (i := 8) (N := some 11) (v := ?_) (a' := ?_) #[true, true, false, true, true, false, false, true, true, false, false, true, false, false, false, false, true, false, false, false, false, true, false, false, false, false, true, false, false, false, true, false, false, false, false] rfl rfl (take_ofW HT_.out HW_.out (by kernel_rfl)) (fun _ _ _ h => h) (Or.inl ⟨by rfl, ?_⟩) hHeld ?_ ?_
                rotate_left
                · rintro w' ⟨s0, s1, s2, s3, s4, s5, s6, s7⟩
                  go_simp
                  with_reducible rfl
                rotate_left
                · simp only [Act.put, List.setIfInBounds_toArray, List.set_cons_zero, List.set_cons_succ, i64_w, i32_w]
                  rfl
                refine take_ (i := 12) (N := some 15) (v := ?_) (a' := ?_) #[true, true, false, true, true, false, false, true, true, false, false, true, true, false, false, false, true, false, false, false, false, true, false, false, false, false, true, false, false, false, true, false, false, false, false] rfl rfl (take_ofW HT_.out HW_.out (by kernel_rfl)) (fun _ _ _ h => h) (Or.inl ⟨by rfl, ?_⟩) hHeld ?_ ?_
                rotate_left
                · rintro w' ⟨s0, s1, s2, s3, s4, s5, s6, s7⟩
                  go_simp
                  with_reducible rfl
                rotate_left
                · simp only [Act.put, List.setIfInBounds_toArray, List.set_cons_zero, List.set_cons_succ, i64_w, i32_w]
                  rfl
                refine pure_ (i := 13) (N := some 16) (v := ?_) (a' := ?_) #[true, true, false, true, true, false, false, true, true, false, false, true, true, true, false, false, true, false, false, false, false, true, false, false, false, false, true, false, false, false, true, false, false, false, false] rfl rfl (any_of HT_.out (by kernel_rfl)) (fun _ _ _ h => h) (Or.inl ⟨by rfl, ?_⟩) ?_ ?_
                rotate_left
                · intro w'
                  go_simp
                  with_reducible rfl
                rotate_left
                · simp only [Act.put, List.setIfInBounds_toArray, List.set_cons_zero, List.set_cons_succ, i64_w, i32_w]
                  rfl
                refine take_ (i := 17) (N := some 20) (v := ?_) (a' := ?_) #[true, true, false, true, true, false, false, true, true, false, false, true, true, true, false, false, true, true, false, false, false, true, false, false, false, false, true, false, false, false, true, false, false, false, false] rfl rfl (take_ofW HT_.out HW_.out (by kernel_rfl)) (fun _ _ _ h => h) (Or.inl ⟨by rfl, ?_⟩) hHeld ?_ ?_
                rotate_left
                · rintro w' ⟨s0, s1, s2, s3, s4, s5, s6, s7⟩
                  go_simp
                  with_reducible rfl
                rotate_left
                · simp only [Act.put, List.setIfInBounds_toArray, List.set_cons_zero, List.set_cons_succ, i64_w, i32_w]
                  rfl
                refine pure_ (i := 18) (N := some 21) (v := ?_) (a' := ?_) #[true, true, false, true, true, false, false, true, true, false, false, true, true, true, false, false, true, true, true, false, false, true, false, false, false, false, true, false, false, false, true, false, false, false, false] rfl rfl (any_of HT_.out (by kernel_rfl)) (fun _ _ _ h => h) (Or.inl ⟨by rfl, ?_⟩) ?_ ?_
                rotate_left
                · intro w'
                  go_simp
                  with_reducible rfl
                rotate_left
                · simp only [Act.put, List.setIfInBounds_toArray, List.set_cons_zero, List.set_cons_succ, i64_w, i32_w]
                  rfl
                refine take_ (i := 22) (N := some 25) (v := ?_) (a' := ?_) #[true, true, false, true, true, false, false, true, true, false, false, true, true, true, false, false, true, true, true, false, false, true, true, false, false, false, true, false, false, false, true, false, false, false, false] rfl rfl (take_ofW HT_.out HW_.out (by kernel_rfl)) (fun _ _ _ h => h) (Or.inl ⟨by rfl, ?_⟩) hHeld ?_ ?_
                rotate_left
                · rintro w' ⟨s0, s1, s2, s3, s4, s5, s6, s7⟩
                  go_simp
                  with_reducible rfl
                rotate_left
                · simp only [Act.put, List.setIfInBounds_toArray, List.set_cons_zero, List.set_cons_succ, i64_w, i32_w]
                  rfl
                refine pure_ (i := 23) (N := some 26) (v := ?_) (a' := ?_) #[true, true, false, true, true, false, false, true, true, false, false, true, true, true, false, false, true, true, true, false, false, true, true, true, false, false, true, false, false, false, true, false, false, false, false] rfl rfl (any_of HT_.out (by kernel_rfl)) (fun _ _ _ h => h) (Or.inl ⟨by rfl, ?_⟩) ?_ ?_
                rotate_left
                · intro w'
                  go_simp
                  with_reducible rfl
                rotate_left
                · simp only [Act.put, List.setIfInBounds_toArray, List.set_cons_zero, List.set_cons_succ, i64_w, i32_w]
                  rfl
                refine take_ (i := 27) (N := some 30) (v := ?_) (a' := ?_) #[true, true, false, true, true, false, false, true, true, false, false, true, true, true, false, false, true, true, true, false, false, true, true, true, false, false, true, true, false, false, true, false, false, false, false] rfl rfl (take_ofW HT_.out HW_.out (by kernel_rfl)) (fun _ _ _ h => h) (Or.inl ⟨by rfl, ?_⟩) hHeld ?_ ?_
                rotate_left
                · rintro w' ⟨s0, s1, s2, s3, s4, s5, s6, s7⟩
                  go_simp
                  with_reducible rfl
                rotate_left
                · simp only [Act.put, List.setIfInBounds_toArray, List.set_cons_zero, List.set_cons_succ, i64_w, i32_w]
                  rfl
                refine take_ (i := 31) (N := some 34) (v := ?_) (a' := ?_) #[true, true, false, true, true, false, false, true, true, false, false, true, true, true, false, false, true, true, true, false, false, true, true, true, false, false, true, true, false, false, true, true, false, false, false] rfl rfl (take_ofW HT_.out HW_.out (by kernel_rfl)) (fun _ _ _ h => h) (Or.inl ⟨by rfl, ?_⟩) hHeld ?_ ?_
                rotate_left
                · rintro w' ⟨s0, s1, s2, s3, s4, s5, s6, s7⟩
                  go_simp
                  with_reducible rfl
                rotate_left
                · simp only [Act.put, List.setIfInBounds_toArray, List.set_cons_zero, List.set_cons_succ, i64_w, i32_w]
                  rfl
                refine one_ (i := 2) (N := some 5) #[true, true, true, true, true, false, false, true, true, false, false, true, true, true, false, false, true, true, true, false, false, true, true, true, false, false, true, true, false, false, true, true, false, false, false] rfl rfl (one_of HT_.out (by kernel_rfl)) (by decide) (fun K hK => ?_)
                refine goes_ Try.func41 (by kernel_rfl) rfl #[.int .u64 a0_0, .int .i64 8] (by rfl) rfl rfl (by (try simp only [List.map_toArray, List.map_cons, List.map_nil]); first | done | rfl | (simp only [List.length_drop, List.length_take]; rfl) | (rw [Go.Proofs.Ytdpodjgggicaoaa.H.u64_id _ (by simp only [decide_eq_false_iff_not, decide_eq_true_eq, Nat.not_lt, Int.not_lt] at *; omega) (by simp only [decide_eq_false_iff_not, decide_eq_true_eq, Nat.not_lt, Int.not_lt] at *; omega)]; rfl)) ?_
                with_reducible refine (merkhetref02_Put.calls k a0_0 8 t221 _ A2.out).mono ?_
                rintro e w19 ⟨rfl, hb⟩
                refine ⟨_, rfl, ?_⟩
                have n0_ := Aside0.mk (blk_below (g := gb220) (o := .cells #[.int .u64 a0_0, .int .u64 a0_1, .int .u64 a0_2, .int .u8 a0_3, .string a0_4, .string a0_5, .int .i64 a0_6, .int .i64 a0_7] 77 (0, 0)) (by (with_reducible repeat (first | refine blk_drewN ?_ _ | refine blk_drew ?_ | refine blk_alloc ?_ _)); exact BK220.out) hb)
                have n1_ := Aside0.mk (below_step (by repeat (first | (with_reducible first | exact HB.out | apply below_alloc | apply pw_below_drewN | apply below_drew1 | refine below_set ?_ GE220.out) | exact HB.out)) hb)
                clear BK220
                clear HB
                have BK220 := n0_
                have HB := n1_
                clear n0_ n1_
                (try clear hb)
                (try clear hb2)
                (try clear hk)
                (try clear hi)
                refine hK.out _ _ ⟨(blk_cell BK220.out 0).trans rfl, (blk_cell BK220.out 1).trans rfl, (blk_cell BK220.out 2).trans rfl, (blk_cell BK220.out 3).trans rfl, (blk_cell BK220.out 4).trans rfl, (blk_cell BK220.out 5).trans rfl, (blk_cell BK220.out 6).trans rfl, (blk_cell BK220.out 7).trans rfl⟩ (fun hHeld => ?_)
                clear hK K
                refine norm_ (a' := ?_) ?_ ?_
                rotate_left
                · show Act.put _ (some 5) _ = _
                  simp only [Act.put, List.setIfInBounds_toArray, List.set_cons_zero, List.set_cons_succ, i64_w, i32_w]
                  rfl
                refine one_ (i := 5) (N := some 8) #[true, true, true, true, true, true, false, true, true, false, false, true, true, true, false, false, true, true, true, false, false, true, true, true, false, false, true, true, false, false, true, true, false, false, false] rfl rfl (one_of HT_.out (by kernel_rfl)) (by decide) (fun K hK => ?_)
                refine goes_ Try.func41 (by kernel_rfl) rfl #[.int .u64 a0_1, .int .i64 8] (by rfl) rfl rfl (by (try simp only [List.map_toArray, List.map_cons, List.map_nil]); first | done | rfl | (simp only [List.length_drop, List.length_take]; rfl) | (rw [Go.Proofs.Ytdpodjgggicaoaa.H.u64_id _ (by simp only [decide_eq_false_iff_not, decide_eq_true_eq, Nat.not_lt, Int.not_lt] at *; omega) (by simp only [decide_eq_false_iff_not, decide_eq_true_eq, Nat.not_lt, Int.not_lt] at *; omega)]; rfl)) ?_
                with_reducible refine (merkhetref02_Put.calls k a0_1 8 t222 _ A3.out).mono ?_
                rintro e w20 ⟨rfl, hb⟩
                refine ⟨_, rfl, ?_⟩
                have n0_ := Aside0.mk (blk_below (g := gb220) (o := .cells #[.int .u64 a0_0, .int .u64 a0_1, .int .u64 a0_2, .int .u8 a0_3, .string a0_4, .string a0_5, .int .i64 a0_6, .int .i64 a0_7] 77 (0, 0)) (by (with_reducible repeat (first | refine blk_drewN ?_ _ | refine blk_drew ?_ | refine blk_alloc ?_ _)); exact BK220.out) hb)
                have n1_ := Aside0.mk (below_step (by repeat (first | (with_reducible first | exact HB.out | apply below_alloc | apply pw_below_drewN | apply below_drew1 | refine below_set ?_ GE220.out) | exact HB.out)) hb)
                clear BK220
                clear HB
                have BK220 := n0_
                have HB := n1_
                clear n0_ n1_
                (try clear hb)
                (try clear hb2)
                (try clear hk)
                (try clear hi)
                refine hK.out _ _ ⟨(blk_cell BK220.out 0).trans rfl, (blk_cell BK220.out 1).trans rfl, (blk_cell BK220.out 2).trans rfl, (blk_cell BK220.out 3).trans rfl, (blk_cell BK220.out 4).trans rfl, (blk_cell BK220.out 5).trans rfl, (blk_cell BK220.out 6).trans rfl, (blk_cell BK220.out 7).trans rfl⟩ (fun hHeld => ?_)
                clear hK K
                refine norm_ (a' := ?_) ?_ ?_
                rotate_left
                · show Act.put _ (some 8) _ = _
                  simp only [Act.put, List.setIfInBounds_toArray, List.set_cons_zero, List.set_cons_succ, i64_w, i32_w]
                  rfl
                refine pure_ (i := 6) (N := some 9) (v := ?_) (a' := ?_) #[true, true, true, true, true, true, true, true, true, false, false, true, true, true, false, false, true, true, true, false, false, true, true, true, false, false, true, true, false, false, true, true, false, false, false] rfl rfl (any_of HT_.out (by kernel_rfl)) (fun _ _ _ h => h) (Or.inl ⟨by rfl, ?_⟩) ?_ ?_
                rotate_left
                · intro w'
                  go_simp
                  with_reducible rfl
                rotate_left
                · simp only [Act.put, List.setIfInBounds_toArray, List.set_cons_zero, List.set_cons_succ, i64_w, i32_w]
                  rfl
                refine one_ (i := 9) (N := some 12) #[true, true, true, true, true, true, true, true, true, true, false, true, true, true, false, false, true, true, true, false, false, true, true, true, false, false, true, true, false, false, true, true, false, false, false] rfl rfl (one_of HT_.out (by kernel_rfl)) (by decide) (fun K hK => ?_)
                refine goes_ Try.func41 (by kernel_rfl) rfl #[.int .u64 a0_2, .int .i64 8] (by rfl) rfl rfl (by (try simp only [List.map_toArray, List.map_cons, List.map_nil]); first | done | rfl | (simp only [List.length_drop, List.length_take]; rfl) | (rw [Go.Proofs.Ytdpodjgggicaoaa.H.u64_id _ (by simp only [decide_eq_false_iff_not, decide_eq_true_eq, Nat.not_lt, Int.not_lt] at *; omega) (by simp only [decide_eq_false_iff_not, decide_eq_true_eq, Nat.not_lt, Int.not_lt] at *; omega)]; rfl)) ?_
                with_reducible refine (merkhetref02_Put.calls k a0_2 8 t223 _ A5.out).mono ?_
                rintro e w21 ⟨rfl, hb⟩
                refine ⟨_, rfl, ?_⟩
                have n0_ := Aside0.mk (blk_below (g := gb220) (o := .cells #[.int .u64 a0_0, .int .u64 a0_1, .int .u64 a0_2, .int .u8 a0_3, .string a0_4, .string a0_5, .int .i64 a0_6, .int .i64 a0_7] 77 (0, 0)) (by (with_reducible repeat (first | refine blk_drewN ?_ _ | refine blk_drew ?_ | refine blk_alloc ?_ _)); exact BK220.out) hb)
                have n1_ := Aside0.mk (below_step (by repeat (first | (with_reducible first | exact HB.out | apply below_alloc | apply pw_below_drewN | apply below_drew1 | refine below_set ?_ GE220.out) | exact HB.out)) hb)
                clear BK220
                clear HB
                have BK220 := n0_
                have HB := n1_
                clear n0_ n1_
                (try clear hb)
                (try clear hb2)
                (try clear hk)
                (try clear hi)
                refine hK.out _ _ ⟨(blk_cell BK220.out 0).trans rfl, (blk_cell BK220.out 1).trans rfl, (blk_cell BK220.out 2).trans rfl, (blk_cell BK220.out 3).trans rfl, (blk_cell BK220.out 4).trans rfl, (blk_cell BK220.out 5).trans rfl, (blk_cell BK220.out 6).trans rfl, (blk_cell BK220.out 7).trans rfl⟩ (fun hHeld => ?_)
                clear hK K
                refine norm_ (a' := ?_) ?_ ?_
                rotate_left
                · show Act.put _ (some 12) _ = _
                  simp only [Act.put, List.setIfInBounds_toArray, List.set_cons_zero, List.set_cons_succ, i64_w, i32_w]
                  rfl
                refine pure_ (i := 10) (N := some 13) (v := ?_) (a' := ?_) #[true, true, true, true, true, true, true, true, true, true, true, true, true, true, false, false, true, true, true, false, false, true, true, true, false, false, true, true, false, false, true, true, false, false, false] rfl rfl (any_of HT_.out (by kernel_rfl)) (fun _ _ _ h => h) (Or.inl ⟨by rfl, ?_⟩) ?_ ?_
                rotate_left
                · intro w'
                  go_simp
                  with_reducible rfl
                rotate_left
                · simp only [Act.put, List.setIfInBounds_toArray, List.set_cons_zero, List.set_cons_succ, i64_w, i32_w]
                  rfl
                refine one_ (i := 14) (N := some 17) #[true, true, true, true, true, true, true, true, true, true, true, true, true, true, true, false, true, true, true, false, false, true, true, true, false, false, true, true, false, false, true, true, false, false, false] rfl rfl (one_of HT_.out (by kernel_rfl)) (by decide) (fun K hK => ?_)
                refine goes_ Try.func41 (by kernel_rfl) rfl #[.int .u64 (IntKind.u64.wrap (a0_3)), .int .i64 1] (by rfl) rfl rfl (by (try simp only [List.map_toArray, List.map_cons, List.map_nil]); first | done | rfl | (simp only [List.length_drop, List.length_take]; rfl) | (rw [Go.Proofs.Ytdpodjgggicaoaa.H.u64_id _ (by simp only [decide_eq_false_iff_not, decide_eq_true_eq, Nat.not_lt, Int.not_lt] at *; omega) (by simp only [decide_eq_false_iff_not, decide_eq_true_eq, Nat.not_lt, Int.not_lt] at *; omega)]; rfl)) ?_
                with_reducible refine (merkhetref02_Put.calls k (IntKind.u64.wrap (a0_3)) 1 t224 _ A7.out).mono ?_
                rintro e w22 ⟨rfl, hb⟩
                refine ⟨_, rfl, ?_⟩
                have n0_ := Aside0.mk (blk_below (g := gb220) (o := .cells #[.int .u64 a0_0, .int .u64 a0_1, .int .u64 a0_2, .int .u8 a0_3, .string a0_4, .string a0_5, .int .i64 a0_6, .int .i64 a0_7] 77 (0, 0)) (by (with_reducible repeat (first | refine blk_drewN ?_ _ | refine blk_drew ?_ | refine blk_alloc ?_ _)); exact BK220.out) hb)
                have n1_ := Aside0.mk (below_step (by repeat (first | (with_reducible first | exact HB.out | apply below_alloc | apply pw_below_drewN | apply below_drew1 | refine below_set ?_ GE220.out) | exact HB.out)) hb)
                clear BK220
                clear HB
                have BK220 := n0_
                have HB := n1_
                clear n0_ n1_
                (try clear hb)
                (try clear hb2)
                (try clear hk)
                (try clear hi)
                refine hK.out _ _ ⟨(blk_cell BK220.out 0).trans rfl, (blk_cell BK220.out 1).trans rfl, (blk_cell BK220.out 2).trans rfl, (blk_cell BK220.out 3).trans rfl, (blk_cell BK220.out 4).trans rfl, (blk_cell BK220.out 5).trans rfl, (blk_cell BK220.out 6).trans rfl, (blk_cell BK220.out 7).trans rfl⟩ (fun hHeld => ?_)
                clear hK K
                refine norm_ (a' := ?_) ?_ ?_
                rotate_left
                · show Act.put _ (some 17) _ = _
                  simp only [Act.put, List.setIfInBounds_toArray, List.set_cons_zero, List.set_cons_succ, i64_w, i32_w]
                  rfl
                refine pure_ (i := 15) (N := some 18) (v := ?_) (a' := ?_) #[true, true, true, true, true, true, true, true, true, true, true, true, true, true, true, true, true, true, true, false, false, true, true, true, false, false, true, true, false, false, true, true, false, false, false] rfl rfl (any_of HT_.out (by kernel_rfl)) (fun _ _ _ h => h) (Or.inl ⟨by rfl, ?_⟩) ?_ ?_
                rotate_left
                · intro w'
                  go_simp
                  with_reducible rfl
                rotate_left
                · simp only [Act.put, List.setIfInBounds_toArray, List.set_cons_zero, List.set_cons_succ, i64_w, i32_w]
                  rfl
                refine one_ (i := 19) (N := some 22) #[true, true, true, true, true, true, true, true, true, true, true, true, true, true, true, true, true, true, true, true, false, true, true, true, false, false, true, true, false, false, true, true, false, false, false] rfl rfl (one_of HT_.out (by kernel_rfl)) (by decide) (fun K hK => ?_)
                refine goes_ Try.func41 (by kernel_rfl) rfl #[.int .u64 (IntKind.u64.wrap (a0_6)), .int .i64 8] (by rfl) rfl rfl (by (try simp only [List.map_toArray, List.map_cons, List.map_nil]); first | done | rfl | (simp only [List.length_drop, List.length_take]; rfl) | (rw [Go.Proofs.Ytdpodjgggicaoaa.H.u64_id _ (by simp only [decide_eq_false_iff_not, decide_eq_true_eq, Nat.not_lt, Int.not_lt] at *; omega) (by simp only [decide_eq_false_iff_not, decide_eq_true_eq, Nat.not_lt, Int.not_lt] at *; omega)]; rfl)) ?_
                with_reducible refine (merkhetref02_Put.calls k (IntKind.u64.wrap (a0_6)) 8 t225 _ A9.out).mono ?_
                rintro e w23 ⟨rfl, hb⟩
                refine ⟨_, rfl, ?_⟩
                have n0_ := Aside0.mk (blk_below (g := gb220) (o := .cells #[.int .u64 a0_0, .int .u64 a0_1, .int .u64 a0_2, .int .u8 a0_3, .string a0_4, .string a0_5, .int .i64 a0_6, .int .i64 a0_7] 77 (0, 0)) (by (with_reducible repeat (first | refine blk_drewN ?_ _ | refine blk_drew ?_ | refine blk_alloc ?_ _)); exact BK220.out) hb)
                have n1_ := Aside0.mk (below_step (by repeat (first | (with_reducible first | exact HB.out | apply below_alloc | apply pw_below_drewN | apply below_drew1 | refine below_set ?_ GE220.out) | exact HB.out)) hb)
                clear BK220
                clear HB
                have BK220 := n0_
                have HB := n1_
                clear n0_ n1_
                (try clear hb)
                (try clear hb2)
                (try clear hk)
                (try clear hi)
                refine hK.out _ _ ⟨(blk_cell BK220.out 0).trans rfl, (blk_cell BK220.out 1).trans rfl, (blk_cell BK220.out 2).trans rfl, (blk_cell BK220.out 3).trans rfl, (blk_cell BK220.out 4).trans rfl, (blk_cell BK220.out 5).trans rfl, (blk_cell BK220.out 6).trans rfl, (blk_cell BK220.out 7).trans rfl⟩ (fun hHeld => ?_)
                clear hK K
                refine norm_ (a' := ?_) ?_ ?_
                rotate_left
                · show Act.put _ (some 22) _ = _
                  simp only [Act.put, List.setIfInBounds_toArray, List.set_cons_zero, List.set_cons_succ, i64_w, i32_w]
                  rfl
                refine pure_ (i := 20) (N := some 23) (v := ?_) (a' := ?_) #[true, true, true, true, true, true, true, true, true, true, true, true, true, true, true, true, true, true, true, true, true, true, true, true, false, false, true, true, false, false, true, true, false, false, false] rfl rfl (any_of HT_.out (by kernel_rfl)) (fun _ _ _ h => h) (Or.inl ⟨by rfl, ?_⟩) ?_ ?_
                rotate_left
                · intro w'
                  go_simp
                  with_reducible rfl
                rotate_left
                · simp only [Act.put, List.setIfInBounds_toArray, List.set_cons_zero, List.set_cons_succ, i64_w, i32_w]
                  rfl
                refine one_ (i := 24) (N := some 27) #[true, true, true, true, true, true, true, true, true, true, true, true, true, true, true, true, true, true, true, true, true, true, true, true, true, false, true, true, false, false, true, true, false, false, false] rfl rfl (one_of HT_.out (by kernel_rfl)) (by decide) (fun K hK => ?_)
                refine goes_ Try.func41 (by kernel_rfl) rfl #[.int .u64 (IntKind.u64.wrap (a0_7)), .int .i64 8] (by rfl) rfl rfl (by (try simp only [List.map_toArray, List.map_cons, List.map_nil]); first | done | rfl | (simp only [List.length_drop, List.length_take]; rfl) | (rw [Go.Proofs.Ytdpodjgggicaoaa.H.u64_id _ (by simp only [decide_eq_false_iff_not, decide_eq_true_eq, Nat.not_lt, Int.not_lt] at *; omega) (by simp only [decide_eq_false_iff_not, decide_eq_true_eq, Nat.not_lt, Int.not_lt] at *; omega)]; rfl)) ?_
                with_reducible refine (merkhetref02_Put.calls k (IntKind.u64.wrap (a0_7)) 8 t226 _ A11.out).mono ?_
                rintro e w24 ⟨rfl, hb⟩
                refine ⟨_, rfl, ?_⟩
                have n0_ := Aside0.mk (blk_below (g := gb220) (o := .cells #[.int .u64 a0_0, .int .u64 a0_1, .int .u64 a0_2, .int .u8 a0_3, .string a0_4, .string a0_5, .int .i64 a0_6, .int .i64 a0_7] 77 (0, 0)) (by (with_reducible repeat (first | refine blk_drewN ?_ _ | refine blk_drew ?_ | refine blk_alloc ?_ _)); exact BK220.out) hb)
                have n1_ := Aside0.mk (below_step (by repeat (first | (with_reducible first | exact HB.out | apply below_alloc | apply pw_below_drewN | apply below_drew1 | refine below_set ?_ GE220.out) | exact HB.out)) hb)
                clear BK220
                clear HB
                have BK220 := n0_
                have HB := n1_
                clear n0_ n1_
                (try clear hb)
                (try clear hb2)
                (try clear hk)
                (try clear hi)
                refine hK.out _ _ ⟨(blk_cell BK220.out 0).trans rfl, (blk_cell BK220.out 1).trans rfl, (blk_cell BK220.out 2).trans rfl, (blk_cell BK220.out 3).trans rfl, (blk_cell BK220.out 4).trans rfl, (blk_cell BK220.out 5).trans rfl, (blk_cell BK220.out 6).trans rfl, (blk_cell BK220.out 7).trans rfl⟩ (fun hHeld => ?_)
                clear hK K
                refine norm_ (a' := ?_) ?_ ?_
                rotate_left
                · show Act.put _ (some 27) _ = _
                  simp only [Act.put, List.setIfInBounds_toArray, List.set_cons_zero, List.set_cons_succ, i64_w, i32_w]
                  rfl
                refine pure_ (i := 25) (N := some 28) (v := ?_) (a' := ?_) #[true, true, true, true, true, true, true, true, true, true, true, true, true, true, true, true, true, true, true, true, true, true, true, true, true, true, true, true, false, false, true, true, false, false, false] rfl rfl (any_of HT_.out (by kernel_rfl)) (fun _ _ _ h => h) (Or.inl ⟨by rfl, ?_⟩) ?_ ?_
                rotate_left
                · intro w'
                  go_simp
                  with_reducible rfl
                rotate_left
                · simp only [Act.put, List.setIfInBounds_toArray, List.set_cons_zero, List.set_cons_succ, i64_w, i32_w]
                  rfl
                refine one_ (i := 28) (N := some 31) #[true, true, true, true, true, true, true, true, true, true, true, true, true, true, true, true, true, true, true, true, true, true, true, true, true, true, true, true, true, false, true, true, false, false, false] rfl rfl (one_of HT_.out (by kernel_rfl)) (by decide) (fun K hK => ?_)
                refine goes_ Try.func63 (by kernel_rfl) rfl #[.string a0_4] (by rfl) rfl rfl (by (try simp only [List.map_toArray, List.map_cons, List.map_nil]); first | done | rfl | (simp only [List.length_drop, List.length_take]; rfl) | (rw [Go.Proofs.Ytdpodjgggicaoaa.H.u64_id _ (by simp only [decide_eq_false_iff_not, decide_eq_true_eq, Nat.not_lt, Int.not_lt] at *; omega) (by simp only [decide_eq_false_iff_not, decide_eq_true_eq, Nat.not_lt, Int.not_lt] at *; omega)]; rfl)) ?_
                with_reducible refine (merkhetref02_PutText.calls k a0_4 t227 _ A13.out).mono ?_
                rintro e w25 ⟨rfl, hb⟩
                refine ⟨_, rfl, ?_⟩
                have n0_ := Aside0.mk (blk_below (g := gb220) (o := .cells #[.int .u64 a0_0, .int .u64 a0_1, .int .u64 a0_2, .int .u8 a0_3, .string a0_4, .string a0_5, .int .i64 a0_6, .int .i64 a0_7] 77 (0, 0)) (by (with_reducible repeat (first | refine blk_drewN ?_ _ | refine blk_drew ?_ | refine blk_alloc ?_ _)); exact BK220.out) hb)
                have n1_ := Aside0.mk (below_step (by repeat (first | (with_reducible first | exact HB.out | apply below_alloc | apply pw_below_drewN | apply below_drew1 | refine below_set ?_ GE220.out) | exact HB.out)) hb)
                clear BK220
                clear HB
                have BK220 := n0_
                have HB := n1_
                clear n0_ n1_
                (try clear hb)
                (try clear hb2)
                (try clear hk)
                (try clear hi)
                refine hK.out _ _ ⟨(blk_cell BK220.out 0).trans rfl, (blk_cell BK220.out 1).trans rfl, (blk_cell BK220.out 2).trans rfl, (blk_cell BK220.out 3).trans rfl, (blk_cell BK220.out 4).trans rfl, (blk_cell BK220.out 5).trans rfl, (blk_cell BK220.out 6).trans rfl, (blk_cell BK220.out 7).trans rfl⟩ (fun hHeld => ?_)
                clear hK K
                refine norm_ (a' := ?_) ?_ ?_
                rotate_left
                · show Act.put _ (some 31) _ = _
                  simp only [Act.put, List.setIfInBounds_toArray, List.set_cons_zero, List.set_cons_succ, i64_w, i32_w]
                  rfl
                refine pure_ (i := 29) (N := some 32) (v := ?_) (a' := ?_) #[true, true, true, true, true, true, true, true, true, true, true, true, true, true, true, true, true, true, true, true, true, true, true, true, true, true, true, true, true, true, true, true, false, false, false] rfl rfl (any_of HT_.out (by kernel_rfl)) (fun _ _ _ h => h) (Or.inl ⟨by rfl, ?_⟩) ?_ ?_
                rotate_left
                · intro w'
                  go_simp
                  with_reducible rfl
                rotate_left
                · simp only [Act.put, List.setIfInBounds_toArray, List.set_cons_zero, List.set_cons_succ, i64_w, i32_w]
                  rfl
                refine one_ (i := 32) (N := some 35) #[true, true, true, true, true, true, true, true, true, true, true, true, true, true, true, true, true, true, true, true, true, true, true, true, true, true, true, true, true, true, true, true, true, false, false] rfl rfl (one_of HT_.out (by kernel_rfl)) (by decide) (fun K hK => ?_)
                refine goes_ Try.func63 (by kernel_rfl) rfl #[.string a0_5] (by rfl) rfl rfl (by (try simp only [List.map_toArray, List.map_cons, List.map_nil]); first | done | rfl | (simp only [List.length_drop, List.length_take]; rfl) | (rw [Go.Proofs.Ytdpodjgggicaoaa.H.u64_id _ (by simp only [decide_eq_false_iff_not, decide_eq_true_eq, Nat.not_lt, Int.not_lt] at *; omega) (by simp only [decide_eq_false_iff_not, decide_eq_true_eq, Nat.not_lt, Int.not_lt] at *; omega)]; rfl)) ?_
                with_reducible refine (merkhetref02_PutText.calls k a0_5 t228 _ A15.out).mono ?_
                rintro e w26 ⟨rfl, hb⟩
                refine ⟨_, rfl, ?_⟩
                have n0_ := Aside0.mk (blk_below (g := gb220) (o := .cells #[.int .u64 a0_0, .int .u64 a0_1, .int .u64 a0_2, .int .u8 a0_3, .string a0_4, .string a0_5, .int .i64 a0_6, .int .i64 a0_7] 77 (0, 0)) (by (with_reducible repeat (first | refine blk_drewN ?_ _ | refine blk_drew ?_ | refine blk_alloc ?_ _)); exact BK220.out) hb)
                have n1_ := Aside0.mk (below_step (by repeat (first | (with_reducible first | exact HB.out | apply below_alloc | apply pw_below_drewN | apply below_drew1 | refine below_set ?_ GE220.out) | exact HB.out)) hb)
                clear BK220
                clear HB
                have BK220 := n0_
                have HB := n1_
                clear n0_ n1_
                (try clear hb)
                (try clear hb2)
                (try clear hk)
                (try clear hi)
                refine hK.out _ _ ⟨(blk_cell BK220.out 0).trans rfl, (blk_cell BK220.out 1).trans rfl, (blk_cell BK220.out 2).trans rfl, (blk_cell BK220.out 3).trans rfl, (blk_cell BK220.out 4).trans rfl, (blk_cell BK220.out 5).trans rfl, (blk_cell BK220.out 6).trans rfl, (blk_cell BK220.out 7).trans rfl⟩ (fun hHeld => ?_)
                clear hK K
                refine norm_ (a' := ?_) ?_ ?_
                rotate_left
                · show Act.put _ (some 35) _ = _
                  simp only [Act.put, List.setIfInBounds_toArray, List.set_cons_zero, List.set_cons_succ, i64_w, i32_w]
                  rfl
                refine pure_ (i := 33) (N := some 36) (v := ?_) (a' := ?_) #[true, true, true, true, true, true, true, true, true, true, true, true, true, true, true, true, true, true, true, true, true, true, true, true, true, true, true, true, true, true, true, true, true, true, false] rfl rfl (any_of HT_.out (by kernel_rfl)) (fun _ _ _ h => h) (Or.inl ⟨by rfl, ?_⟩) ?_ ?_
                rotate_left
                · intro w'
                  go_simp
                  with_reducible rfl
                rotate_left
                · simp only [Act.put, List.setIfInBounds_toArray, List.set_cons_zero, List.set_cons_succ, i64_w, i32_w]
                  rfl
                refine pure_ (i := 34) (N := some 2) (v := ?_) (a' := ?_) #[true, true, true, true, true, true, true, true, true, true, true, true, true, true, true, true, true, true, true, true, true, true, true, true, true, true, true, true, true, true, true, true, true, true, true] rfl rfl (any_of HT_.out (by kernel_rfl)) (fun _ _ _ h => h) (Or.inl ⟨by rfl, ?_⟩) ?_ ?_
                rotate_left
                · intro w'
                  go_simp
                  with_reducible rfl
                rotate_left
                · simp only [Act.put, List.setIfInBounds_toArray, List.set_cons_zero, List.set_cons_succ, i64_w, i32_w]
                  rfl
                refine done_ (done_of HT_.out (by kernel_rfl)) ?_
                try go_wp2
                go_ret
                exact ⟨by first | rfl | (simp [errW_none, errW_some] <;> rfl) | (simp [*, errW_none, errW_some] <;> rfl), by repeat (first | (with_reducible first | exact HB.out | apply below_alloc | apply pw_below_drewN | apply below_drew1 | refine below_set ?_ GE220.out) | exact HB.out)⟩
              · rw [if_neg c16] at H
                exact absurd H (by simp)
            · rw [if_neg c14] at H
              exact absurd H (by simp)
          · rw [if_neg c12] at H
            exact absurd H (by simp)
        · rw [if_neg c10] at H
          exact absurd H (by simp)
      · rw [if_neg c8] at H
        exact absurd H (by simp)
    · rw [if_neg c6] at H
      exact absurd H (by simp)
  · rw [if_neg c4] at H
    exact absurd H (by simp)

end Go.Proofs.Ytdpodjgggicaoaa.W
