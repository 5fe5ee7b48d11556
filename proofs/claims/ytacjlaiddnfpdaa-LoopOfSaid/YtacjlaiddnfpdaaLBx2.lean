-- WRITTEN FOR THIS CLAIM by wip/tools/mp.py, a program of this project that drives the kit's print; the functions that the print does not take are this project's own texts.
import Derived.Test.YtacjlaiddnfpdaaLBx0
import Derived.Test.YtacjlaiddnfpdaaLBx1
namespace Go.Proofs.Ytacjlaiddnfpdaa.LB
open Go.RowKit Go.Proofs.YtacjlaiddnfpdaaW.PrintWords Go.Proofs.YtacjlaiddnfpdaaW.PrintLast Go.Proofs.YtacjlaiddnfpdaaW.PrintMore
attribute [local go_sem] max2_int min2_int max_two min_two max_three min_three max_four min_four   -- for this text's walks alone
set_option linter.unusedVariables false
set_option linter.unusedSimpArgs false

attribute [local go_sem high] eqA48
/-! ### merkhetref14_Same: function 31 -/
def merkhetref14_Same.l0 : Nat → List (S48) → List (S48) → Int → Option (Bool)
  | 0, _, _, _ => none
  | k + 1, x0, x1, x5 => if x5 < (x0.length : Int) then (if 0 ≤ x5 then (if x5 < (x1.length : Int) then (if (!(((rd_T48 x0 x5).f0) == ((rd_T48 x1 x5).f0)) || (!(((rd_T48 x0 x5).f1) == ((rd_T48 x1 x5).f1)) || (!(((rd_T48 x0 x5).f2) == ((rd_T48 x1 x5).f2)) || ((!(((rd_T48 x0 x5).f3.f0) == ((rd_T48 x1 x5).f3.f0)) || (!(((rd_T48 x0 x5).f3.f1) == ((rd_T48 x1 x5).f3.f1)))) || (!(((rd_T48 x0 x5).f4) == ((rd_T48 x1 x5).f4))))))) = true then (some false) else (merkhetref14_Same.l0 k x0 x1 (wrap64 (x5 + 1)))) else (none)) else (none)) else (some true)
def merkhetref14_Same.f (k : Nat) (l0 : List (S48)) (l1 : List (S48)) : Option (Bool) := if (l0.length : Int) = (l1.length : Int) then (merkhetref14_Same.l0 k l0 l1 0) else (some false)
theorem merkhetref14_Same.mono_l : ∀ k, (∀ y0 y1 y2, LeO (merkhetref14_Same.l0 k y0 y1 y2) (merkhetref14_Same.l0 (k + 1) y0 y1 y2))
  | 0 => fun _ _ _ r h => by simp [merkhetref14_Same.l0] at h
  | k + 1 => by
    have ih0 := merkhetref14_Same.mono_l k
    · intro y0 y1 y2
      unfold merkhetref14_Same.l0
      repeat' first
      | (with_reducible exact ih0 _ _ _)
      | (with_reducible exact LeO.refl _)
      | (with_reducible exact LeO.none _)
      | (with_reducible refine LeO.ite ?_ ?_)
      | (with_reducible refine LeO.bind ?_ (fun _ => ?_))
      | exact ih0 _ _ _
      | exact LeO.none _
      | refine LeO.ite ?_ ?_
      | refine LeO.bind ?_ (fun _ => ?_)
theorem merkhetref14_Same.mono : ∀ a0 a1 k, LeO (merkhetref14_Same.f k a0 a1) (merkhetref14_Same.f (k + 1) a0 a1) := by
  intro a0 a1 k
  have ih0 := merkhetref14_Same.mono_l k
  unfold merkhetref14_Same.f
  repeat' first
      | (with_reducible exact ih0 _ _ _)
      | (with_reducible exact LeO.refl _)
      | (with_reducible exact LeO.none _)
      | (with_reducible refine LeO.ite ?_ ?_)
      | (with_reducible refine LeO.bind ?_ (fun _ => ?_))
      | exact ih0 _ _ _
      | exact LeO.none _
      | refine LeO.ite ?_ ?_
      | refine LeO.bind ?_ (fun _ => ?_)
set_option maxHeartbeats 8000000 in
set_option maxRecDepth 100000 in
theorem merkhetref14_Same.calls (k : Nat) (A0 : Option Addr) (c0 : Nat) (l0 : List (S48)) (A1 : Option Addr) (c1 : Nat) (l1 : List (S48)) (r : Bool) (w : World) (hr0 : Kd.C k48 w A0 l0.length l0) (hc0 : l0.length ≤ c0) (hr1 : Kd.C k48 w A1 l1.length l1) (hc1 : l1.length ≤ c1) (h : merkhetref14_Same.f k l0 l1 = some r) :
    Calls Try.prog 31 #[.slice A0 l0.length c0, .slice A1 l1.length c1] w fun e w' => e = .returned (.bool r) ∧ Drawn0 w w' := by
  have hu48 := Try.underlying48
  have HR0 := Aside0.mk hr0
  have HC0 := Aside0.mk hc0
  clear hr0 hc0
  have HR1 := Aside0.mk hr1
  have HC1 := Aside0.mk hc1
  clear hr1 hc1
  have H : (if (l0.length : Int) = (l1.length : Int) then (merkhetref14_Same.l0 k l0 l1 0) else (some false)) = some r := h
  clear h
  by_cases c3 : (l0.length : Int) = (l1.length : Int)
  · rw [if_pos c3] at H
    have c3b0 : ((l0.length : Int) == (l1.length : Int)) = true := beq_iff_eq.mpr c3
    have c3b1 : ((l0.length : Int) != (l1.length : Int)) = false := bne_eq_false_iff_eq.mpr c3
    have c3b2 : (l0.length == l1.length) = true := by first | simpa using c3 | (simp at c3 ⊢; omega)
    clear c3
    have H' := Aside0.mk H
    clear H
    go_enter Try.func31, Try.ntmps31
    go_wp2
    repeat (go_quiet (fail); try go_wp2)
    go_loopg [5] k (fun kq v5 w' => ∃ (x5_1 : Int), v5 = .int .i64 x5_1 ∧ Aside0 (merkhetref14_Same.l0 kq l0 l1 x5_1 = some r) ∧ Aside0 (kq ≤ k) ∧ Drawn0 w w')
    case atStart => exact ⟨(0), (by first | rfl | (simp; done) | (simp [*]; done)), H', ⟨Nat.le_refl _⟩, by repeat (first | exact Drawn0.refl _ | apply Drawn0.step)⟩
    case round =>
      clear H'
      try clear c1
      try clear p2
      try clear c3
      try clear c3b0
      try clear c3b1
      try clear c3b2
      obtain ⟨x5_1, rfl, HA, HK1, ⟨m1, rfl⟩⟩ := hrel
      cases gk with
      | zero => exact absurd HA.out (by simp [merkhetref14_Same.l0])
      | succ k1 =>
        have H := HA.out
        clear HA
        simp only [merkhetref14_Same.l0] at H
        by_cases c4 : x5_1 < (l0.length : Int)
        · rw [if_pos c4] at H
          have c4b0 : decide (x5_1 < (l0.length : Int)) = true := decide_eq_true c4
          clear c4
          by_cases c5 : 0 ≤ x5_1
          · rw [if_pos c5] at H
            have c5b0 : decide (0 ≤ x5_1) = true := decide_eq_true c5
            clear c5
            by_cases c6 : x5_1 < (l1.length : Int)
            · rw [if_pos c6] at H
              have c6b0 : decide (x5_1 < (l1.length : Int)) = true := decide_eq_true c6
              clear c6
              by_cases c7 : (!(((rd_T48 l0 x5_1).f0) == ((rd_T48 l1 x5_1).f0)) || (!(((rd_T48 l0 x5_1).f1) == ((rd_T48 l1 x5_1).f1)) || (!(((rd_T48 l0 x5_1).f2) == ((rd_T48 l1 x5_1).f2)) || ((!(((rd_T48 l0 x5_1).f3.f0) == ((rd_T48 l1 x5_1).f3.f0)) || (!(((rd_T48 l0 x5_1).f3.f1) == ((rd_T48 l1 x5_1).f3.f1)))) || (!(((rd_T48 l0 x5_1).f4) == ((rd_T48 l1 x5_1).f4))))))) = true
              · rw [if_pos c7] at H
                have c7b0 : (!(((rd_T48 l0 x5_1).f0) == ((rd_T48 l1 x5_1).f0)) || (!(((rd_T48 l0 x5_1).f1) == ((rd_T48 l1 x5_1).f1)) || (!(((rd_T48 l0 x5_1).f2) == ((rd_T48 l1 x5_1).f2)) || ((!(((rd_T48 l0 x5_1).f3.f0) == ((rd_T48 l1 x5_1).f3.f0)) || (!(((rd_T48 l0 x5_1).f3.f1) == ((rd_T48 l1 x5_1).f3.f1)))) || (!(((rd_T48 l0 x5_1).f4) == ((rd_T48 l1 x5_1).f4))))))) = true := c7
                clear c7
                obtain rfl := Option.some.inj H
                have p101 : 0 ≤ (x5_1 : Int) := of_decide_eq_true (by first | (with_reducible assumption) | assumption)
                have q101 : x5_1 < (l0.length : Int) := of_decide_eq_true (by first | (with_reducible assumption) | assumption)
                obtain ⟨ad101, e101, hx101_0, hx101_1, hx101_2, hx101_3, hx101_4, hx101_5⟩ := at_T48 HR0.out x5_1 p101 q101
                cases e101
                replace p101 := eq_true p101
                replace q101 := eq_true q101
                have p102 : 0 ≤ (x5_1 : Int) := of_decide_eq_true (by first | (with_reducible assumption) | assumption)
                have q102 : x5_1 < (l1.length : Int) := of_decide_eq_true (by first | (with_reducible assumption) | assumption)
                obtain ⟨ad102, e102, hx102_0, hx102_1, hx102_2, hx102_3, hx102_4, hx102_5⟩ := at_T48 HR1.out x5_1 p102 q102
                cases e102
                replace p102 := eq_true p102
                replace q102 := eq_true q102
                go_wp2
                repeat (go_quiet (fail); try go_wp2)
                go_ret
                exact ⟨by first | rfl | (simp; done) | (simp [*]; done), by repeat (first | exact Drawn0.refl _ | apply Drawn0.step)⟩
              · rw [if_neg c7] at H
                have c7b0 : (!(((rd_T48 l0 x5_1).f0) == ((rd_T48 l1 x5_1).f0)) || (!(((rd_T48 l0 x5_1).f1) == ((rd_T48 l1 x5_1).f1)) || (!(((rd_T48 l0 x5_1).f2) == ((rd_T48 l1 x5_1).f2)) || ((!(((rd_T48 l0 x5_1).f3.f0) == ((rd_T48 l1 x5_1).f3.f0)) || (!(((rd_T48 l0 x5_1).f3.f1) == ((rd_T48 l1 x5_1).f3.f1)))) || (!(((rd_T48 l0 x5_1).f4) == ((rd_T48 l1 x5_1).f4))))))) = false := by simpa using c7
                clear c7
                have H' := Aside0.mk H
                clear H
                have p101 : 0 ≤ (x5_1 : Int) := of_decide_eq_true (by first | (with_reducible assumption) | assumption)
                have q101 : x5_1 < (l0.length : Int) := of_decide_eq_true (by first | (with_reducible assumption) | assumption)
                obtain ⟨ad101, e101, hx101_0, hx101_1, hx101_2, hx101_3, hx101_4, hx101_5⟩ := at_T48 HR0.out x5_1 p101 q101
                cases e101
                replace p101 := eq_true p101
                replace q101 := eq_true q101
                have p102 : 0 ≤ (x5_1 : Int) := of_decide_eq_true (by first | (with_reducible assumption) | assumption)
                have q102 : x5_1 < (l1.length : Int) := of_decide_eq_true (by first | (with_reducible assumption) | assumption)
                obtain ⟨ad102, e102, hx102_0, hx102_1, hx102_2, hx102_3, hx102_4, hx102_5⟩ := at_T48 HR1.out x5_1 p102 q102
                cases e102
                replace p102 := eq_true p102
                replace q102 := eq_true q102
                go_wp2
                repeat (go_quiet (fail); try go_wp2)
                go_roundg k1
                case measure => have := HK1.out; omega
                case rel => exact ⟨(wrap64 (x5_1 + 1)), (by first | rfl | (simp; done) | (simp [*]; done)), H', ⟨by have := HK1.out; omega⟩, by repeat (first | exact Drawn0.refl _ | apply Drawn0.step)⟩
            · rw [if_neg c6] at H
              exact absurd H (by simp)
          · rw [if_neg c5] at H
            exact absurd H (by simp)
        · rw [if_neg c4] at H
          have c4b0 : decide (x5_1 < (l0.length : Int)) = false := decide_eq_false c4
          clear c4
          obtain rfl := Option.some.inj H
          go_wp2
          repeat (go_quiet (fail); try go_wp2)
          go_ret
          exact ⟨by first | rfl | (simp; done) | (simp [*]; done), by repeat (first | exact Drawn0.refl _ | apply Drawn0.step)⟩
  · rw [if_neg c3] at H
    have c3b0 : ((l0.length : Int) == (l1.length : Int)) = false := beq_eq_false_iff_ne.mpr c3
    have c3b1 : ((l0.length : Int) != (l1.length : Int)) = true := bne_iff_ne.mpr c3
    have c3b2 : (l0.length == l1.length) = false := by first | simpa using c3 | (simp at c3 ⊢; omega)
    obtain rfl := Option.some.inj H
    go_enter Try.func31, Try.ntmps31
    go_wp2
    repeat (go_quiet (fail); try go_wp2)
    go_ret
    exact ⟨by first | rfl | (simp; done) | (simp [*]; done), by repeat (first | exact Drawn0.refl _ | apply Drawn0.step)⟩

/-! ### api_Edge_56: function 56 -/
/-- Where the first one stands that is such; -1. -/
def api_Edge_56_idx (p : S48 → Bool) (l : List S48) : Int := if l.any p = true then (l.findIdx p : Int) else -1
theorem api_Edge_56_hit (p : S48 → Bool) (l : List S48) (k : Nat) (hk : k < l.length) (hp : p l[k] = true) (hn : ∀ j (h : j < l.length), j < k → p l[j] = false) : api_Edge_56_idx p l = (k : Int) := by
  unfold api_Edge_56_idx
  rw [if_pos (List.any_eq_true.2 ⟨_, List.getElem_mem hk, hp⟩)]
  congr 1
  rw [List.findIdx_eq hk]
  exact ⟨hp, fun j hj => by simpa using hn j (by omega) hj⟩
theorem api_Edge_56_miss (p : S48 → Bool) (l : List S48) (hn : ∀ j (h : j < l.length), p l[j] = false) : api_Edge_56_idx p l = -1 := by
  unfold api_Edge_56_idx
  rw [if_neg]
  intro h
  obtain ⟨x, hx, hp⟩ := List.any_eq_true.1 h
  obtain ⟨j, hj, rfl⟩ := List.getElem_of_mem hx
  rw [hn j hj] at hp
  exact absurd hp (by decide)
set_option maxHeartbeats 8000000 in
set_option maxRecDepth 100000 in
theorem api_Edge_56.calls (A0 : Option Addr) (c0 : Nat) (l0 : List S48) (p : S48 → Bool) (g : Nat) (lb : Array Value) (eg : ∀ args w, (callFunc g args).run Try.prog w = .ok (.enter g args) w) (w : World) (hr0 : Kd.C k48 w A0 l0.length l0)
    (hp : ∀ (W : World) (x : S48), x ∈ l0 → Below w.heap.size w W → Calls Try.prog g (#[(fun x : S48 => Value.agg #[.int .i64 x.f0, .int .i64 x.f1, .int .i64 x.f2, .int .i64 x.f3.f0, .int .i64 x.f3.f1, .bool x.f4]) x] ++ lb) W fun e w' => e = .returned (.bool (p x)) ∧ Below w.heap.size w w') :
    Calls Try.prog 56 #[.slice A0 l0.length c0, .func (.func g) #[] lb] w fun e w' => e = .returned (.int .i64 (api_Edge_56_idx p l0)) ∧ Below w.heap.size w w' := by
  have HR0 := Aside0.mk hr0
  have HP := Aside0.mk hp
  have HB := Aside0.mk (Below.refl w.heap.size w)
  have hmax : l0.length ≤ 9223372036854775807 := Kd.C_max hr0
  clear hr0 hp
  go_enter Try.func56, Try.ntmps56
  go_wp2
  go_loopg [5, 8] l0.length (fun gg _ s8 wr => ∃ k : Nat, k ≤ l0.length ∧ l0.length - k ≤ gg ∧ s8 = .int .i64 k ∧ Aside0 (Below w.heap.size w wr) ∧ Aside0 (∀ j (h : j < l0.length), j < k → p l0[j] = false))
  case atStart => exact ⟨0, Nat.zero_le _, by omega, rfl, HB, ⟨fun j _ hj => absurd hj (Nat.not_lt_zero _)⟩⟩
  case round =>
    obtain ⟨k, hk, hg, rfl, HBr, HN⟩ := hrel
    by_cases hlt : k < l0.length
    · have hltz : (k : Int) < (l0.length : Int) := by omega
      obtain ⟨ad, e, hx0, hx1, hx2, hx3, hx4, hx5⟩ := at_T48 HR0.out (k : Int) (by omega) (by omega)
      cases e
      replace hx0 := (HBr.out.cell (World.block_lt_of_cell? w _ hx0)).trans hx0; simp only [Int.toNat_natCast] at hx0; replace hx1 := (HBr.out.cell (World.block_lt_of_cell? w _ hx1)).trans hx1; simp only [Int.toNat_natCast] at hx1; replace hx2 := (HBr.out.cell (World.block_lt_of_cell? w _ hx2)).trans hx2; simp only [Int.toNat_natCast] at hx2; replace hx3 := (HBr.out.cell (World.block_lt_of_cell? w _ hx3)).trans hx3; simp only [Int.toNat_natCast] at hx3; replace hx4 := (HBr.out.cell (World.block_lt_of_cell? w _ hx4)).trans hx4; simp only [Int.toNat_natCast] at hx4; replace hx5 := (HBr.out.cell (World.block_lt_of_cell? w _ hx5)).trans hx5; simp only [Int.toNat_natCast] at hx5
      have hu_ := Try.underlying48
      have hcall := HP.out wr l0[k] (List.getElem_mem hlt) HBr.out
      have hy : rd_T48 l0 (k : Int) = l0[k] := by first | (simp [rd, rdOf, List.getD_eq_getElem?_getD, List.getElem?_eq_getElem hlt]; done) | (show l0.getD _ _ = _; simp [List.getD_eq_getElem?_getD, List.getElem?_eq_getElem hlt])
      have HY := Aside0.mk hy
      generalize hz : l0[k] = y at hcall hy
      rw [hy] at hx0 hx1 hx2 hx3 hx4 hx5
      have HZ := Aside0.mk hz
      clear hy hz
      cases hq : p y with
      | true =>
        rw [hq] at hcall
        go_wp2_with (go_at_fn g; refine hcall.mono ?_; rintro e w' ⟨rfl, hb'⟩)
        go_ret
        refine ⟨?_, hb'⟩
        rw [api_Edge_56_hit p l0 k hlt (by rw [HZ.out]; exact hq) HN.out]
        rfl
      | false =>
        rw [hq] at hcall
        go_wp2_with (go_at_fn g; refine hcall.mono ?_; rintro e w' ⟨rfl, hb'⟩)
        go_roundg (l0.length - (k + 1))
        case measure => omega
        case rel =>
          refine ⟨k + 1, by omega, by omega, by go_num, ⟨hb'⟩, ⟨fun j h hj => ?_⟩⟩
          by_cases e : j = k
          · subst e
            rw [HZ.out]; exact hq
          · exact HN.out j h (by omega)
    · have hltz : ¬ (k : Int) < (l0.length : Int) := by omega
      have HK := Aside0.mk (show k = l0.length by omega)
      go_wp2
      go_ret
      refine ⟨?_, HBr.out⟩
      rw [api_Edge_56_miss p l0 (fun j h => HN.out j h (by rw [HK.out]; exact h))]
      rfl


/-! ### api_Edge_42: function 42 -/
set_option maxHeartbeats 8000000 in
set_option maxRecDepth 100000 in
theorem api_Edge_42.calls (A0 : Option Addr) (c0 : Nat) (l0 : List S48) (p : S48 → Bool) (g : Nat) (lb : Array Value) (eg : ∀ args w, (callFunc g args).run Try.prog w = .ok (.enter g args) w) (w : World) (hr0 : Kd.C k48 w A0 l0.length l0)
    (hp : ∀ (W : World) (x : S48), x ∈ l0 → Below w.heap.size w W → Calls Try.prog g (#[(fun x : S48 => Value.agg #[.int .i64 x.f0, .int .i64 x.f1, .int .i64 x.f2, .int .i64 x.f3.f0, .int .i64 x.f3.f1, .bool x.f4]) x] ++ lb) W fun e w' => e = .returned (.bool (p x)) ∧ Below w.heap.size w w') :
    Calls Try.prog 42 #[.slice A0 l0.length c0, .func (.func g) #[] lb] w fun e w' => e = .returned (.bool (l0.any p)) ∧ Below w.heap.size w w' := by
  have hany : decide (0 ≤ api_Edge_56_idx p l0) = l0.any p := by
    unfold api_Edge_56_idx
    by_cases h : l0.any p = true
    · rw [if_pos h, h]; exact decide_eq_true (by omega)
    · rw [if_neg h, Bool.eq_false_iff.2 h]; rfl
  have HA := Aside0.mk hany
  have hcall := api_Edge_56.calls A0 c0 l0 p g lb eg w hr0 hp
  clear hany hr0 hp
  go_enter Try.func42, Try.ntmps42
  go_wp2_with (go_at_call 56; refine hcall.mono ?_; rintro e w' ⟨rfl, hb'⟩)
  go_ret
  exact ⟨by first | rfl | (rw [← HA.out]; rfl), hb'⟩


/-! ### relax_May: function 23 -/
/-- Is an edge none for so many hosts? -/
def mayBad (n : Int) (x : S48) : Bool := decide (mn x.f0 x.f1 < 0) || decide (mx x.f0 x.f1 ≥ n) || decide (x.f2 > 4503599627370496) || decide (x.f2 < -4503599627370496)
def relax_May.f (a0 : Int) (l1 : List S48) : Option Bool := if a0 < 0 then some false else (if a0 > 32 then some false else some (!(l1.any (mayBad a0))))
set_option maxHeartbeats 8000000 in
set_option maxRecDepth 100000 in
theorem mayBad_calls (n : Int) (B : Nat) (x : S48) (w W : World) (hb : Below w.heap.size w W) (hcell : W.cell? ⟨B, 0, none⟩ = some (.int .i64 n)) :
    Calls Try.prog 43 (#[(fun x : S48 => Value.agg #[.int .i64 x.f0, .int .i64 x.f1, .int .i64 x.f2, .int .i64 x.f3.f0, .int .i64 x.f3.f1, .bool x.f4]) x] ++ #[.pointer (some ⟨B, 0, none⟩)]) W fun e w' => e = .returned (.bool (mayBad n x)) ∧ Below w.heap.size w w' := by
  obtain ⟨a, b, c, d, f⟩ := x
  have HB := Aside0.mk hb
  have HLT := Aside0.mk (World.block_lt_of_cell? W _ hcell)
  clear hb
  show Calls Try.prog 43 #[.agg #[.int .i64 a, .int .i64 b, .int .i64 c, .int .i64 d.f0, .int .i64 d.f1, .bool f], .pointer (some ⟨B, 0, none⟩)] W _
  have hu_ := Try.underlying48
  have hcell2 : (W.alloc (.cells #[.int .i64 a, .int .i64 b, .int .i64 c, .int .i64 d.f0, .int .i64 d.f1, .bool f] 48)).cell? ⟨B, 0, none⟩ = some (.int .i64 n) := ((below_alloc (Below.refl W.heap.size W) _).cell HLT.out).trans hcell
  go_enter Try.func43, Try.ntmps43
  go_wp2
  all_goals (go_ret; refine ⟨congrArg (fun b_ => Ending.returned (.bool b_)) ?_, below_alloc HB.out _⟩; clear hcell hcell2 hu_; unfold mayBad mn mx; rw [Bool.eq_iff_iff]; simp only [Bool.or_eq_true, decide_eq_true_eq, true_iff, iff_true, false_iff, iff_false, Bool.false_eq_true, Bool.true_eq_false, ge_iff_le, gt_iff_lt]; (repeat' split) <;> omega)
set_option maxHeartbeats 8000000 in
set_option maxRecDepth 100000 in
theorem relax_May.calls (a0 : Int) (A1 : Option Addr) (c1 : Nat) (l1 : List S48) (r : Bool) (w : World) (hr1 : Kd.C k48 w A1 l1.length l1) (hc1 : l1.length ≤ c1) (h : relax_May.f a0 l1 = some r) :
    Calls Try.prog 23 #[.int .i64 a0, .slice A1 l1.length c1] w fun e w' => e = .returned (.bool r) ∧ Below w.heap.size w w' := by
  have hmf : ∀ (fn : Fn) (first cap : Array Value) (w : World), (Instr.makeFunc fn first cap).run Try.prog w = .ok (.func fn first cap) w := fun _ _ _ _ => rfl
  have HB := Aside0.mk (below_alloc (Below.refl w.heap.size w) (.cells #[.int .i64 a0] 3))
  have HR := Aside0.mk (Kd.C_alloc hr1 (.cells #[.int .i64 a0] 3))
  have hcall := api_Edge_42.calls A1 c1 l1 (mayBad a0) 43 #[.pointer (some ⟨w.heap.size, 0, none⟩)] (fun args w => enters_ (P := Try.prog) Try.func43 (by kernel_rfl) rfl args w) (w.alloc (.cells #[.int .i64 a0] 3)) HR.out (fun W x _ hb => mayBad_calls a0 w.heap.size x _ W hb (by rw [hb.cell (p := ⟨w.heap.size, 0, none⟩) (by simp)]; rw [World.cell?_alloc_at _ _ _ _ rfl]; rfl))
  have HC := Aside0.mk hcall
  clear hcall hr1 hc1
  unfold relax_May.f at h
  by_cases c2 : a0 < 0
  · rw [if_pos c2] at h
    obtain rfl := Option.some.inj h
    clear h
    have c2b := decide_eq_true c2
    go_enter Try.func23, Try.ntmps23
    go_wp2
    go_ret
    exact ⟨rfl, HB.out⟩
  · rw [if_neg c2] at h
    have c2b := decide_eq_false c2
    by_cases c3 : a0 > 32
    · rw [if_pos c3] at h
      obtain rfl := Option.some.inj h
      clear h
      have c3b : decide (32 < a0) = true := decide_eq_true c3
      go_enter Try.func23, Try.ntmps23
      go_wp2
      go_ret
      exact ⟨rfl, HB.out⟩
    · rw [if_neg c3] at h
      obtain rfl := Option.some.inj h
      clear h
      have c3b : decide (32 < a0) = false := decide_eq_false c3
      clear c2 c3
      go_enter Try.func23, Try.ntmps23
      go_wp2_with (go_at_call 42; refine HC.out.mono ?_; rintro e w2 ⟨rfl, hb⟩)
      go_ret
      exact ⟨by simp, below_step HB.out hb⟩


/-! ### bits_Mul32: function 69 -/
def bits_Mul32.f (a0 : Int) (a1 : Int) : Option (Int × Int) := some (((IntKind.u64.wrap ((IntKind.u64.wrap (a0)) * (IntKind.u64.wrap (a1)))) / 4294967296) % 4294967296, (IntKind.u64.wrap ((IntKind.u64.wrap (a0)) * (IntKind.u64.wrap (a1)))) % 4294967296)
set_option maxHeartbeats 8000000 in
set_option maxRecDepth 100000 in
theorem bits_Mul32.calls (a0 : Int) (a1 : Int) (r1 : Int) (r2 : Int) (w : World) (h : bits_Mul32.f a0 a1 = some (r1, r2)) :
    Calls Try.prog 69 #[.int .u32 a0, .int .u32 a1] w fun e w' => e = .returned (.tuple #[.int .u32 r1, .int .u32 r2]) ∧ Drawn0 w w' := by
  have H : (some (((IntKind.u64.wrap ((IntKind.u64.wrap (a0)) * (IntKind.u64.wrap (a1)))) / 4294967296) % 4294967296, (IntKind.u64.wrap ((IntKind.u64.wrap (a0)) * (IntKind.u64.wrap (a1)))) % 4294967296)) = some (r1, r2) := h
  clear h
  simp only [Option.some.injEq, Prod.mk.injEq] at H
  obtain ⟨rfl, rfl⟩ := H
  go_enter Try.func69, Try.ntmps69
  go_wp2
  go_ret2
  exact ⟨by first | rfl | (simp; done) | (simp [*]; done), by repeat (first | exact Drawn0.refl _ | apply Drawn0.step)⟩

/-! ### bits_Mul64: function 70 -/
def bits_Mul64.f (a0 : Int) (a1 : Int) : Option (Int × Int) := some (IntKind.u64.wrap ((IntKind.u64.wrap ((IntKind.u64.wrap ((a0 / 4294967296) * (a1 / 4294967296))) + ((IntKind.u64.wrap ((IntKind.u64.wrap ((a0 / 4294967296) * (Go.bits .and .u64 a1 4294967295))) + ((IntKind.u64.wrap ((Go.bits .and .u64 a0 4294967295) * (Go.bits .and .u64 a1 4294967295))) / 4294967296))) / 4294967296))) + ((IntKind.u64.wrap ((Go.bits .and .u64 (IntKind.u64.wrap ((IntKind.u64.wrap ((a0 / 4294967296) * (Go.bits .and .u64 a1 4294967295))) + ((IntKind.u64.wrap ((Go.bits .and .u64 a0 4294967295) * (Go.bits .and .u64 a1 4294967295))) / 4294967296))) 4294967295) + (IntKind.u64.wrap ((Go.bits .and .u64 a0 4294967295) * (a1 / 4294967296))))) / 4294967296)), IntKind.u64.wrap (a0 * a1))
set_option maxHeartbeats 8000000 in
set_option maxRecDepth 100000 in
theorem bits_Mul64.calls (a0 : Int) (a1 : Int) (r1 : Int) (r2 : Int) (w : World) (h : bits_Mul64.f a0 a1 = some (r1, r2)) :
    Calls Try.prog 70 #[.int .u64 a0, .int .u64 a1] w fun e w' => e = .returned (.tuple #[.int .u64 r1, .int .u64 r2]) ∧ Drawn0 w w' := by
  have H : (some (IntKind.u64.wrap ((IntKind.u64.wrap ((IntKind.u64.wrap ((a0 / 4294967296) * (a1 / 4294967296))) + ((IntKind.u64.wrap ((IntKind.u64.wrap ((a0 / 4294967296) * (Go.bits .and .u64 a1 4294967295))) + ((IntKind.u64.wrap ((Go.bits .and .u64 a0 4294967295) * (Go.bits .and .u64 a1 4294967295))) / 4294967296))) / 4294967296))) + ((IntKind.u64.wrap ((Go.bits .and .u64 (IntKind.u64.wrap ((IntKind.u64.wrap ((a0 / 4294967296) * (Go.bits .and .u64 a1 4294967295))) + ((IntKind.u64.wrap ((Go.bits .and .u64 a0 4294967295) * (Go.bits .and .u64 a1 4294967295))) / 4294967296))) 4294967295) + (IntKind.u64.wrap ((Go.bits .and .u64 a0 4294967295) * (a1 / 4294967296))))) / 4294967296)), IntKind.u64.wrap (a0 * a1))) = some (r1, r2) := h
  clear h
  simp only [Option.some.injEq, Prod.mk.injEq] at H
  obtain ⟨rfl, rfl⟩ := H
  go_enter Try.func70, Try.ntmps70
  go_wp2
  go_ret2
  exact ⟨by first | rfl | (simp; done) | (simp [*]; done), by repeat (first | exact Drawn0.refl _ | apply Drawn0.step)⟩

/-! ### bits_Mul: function 65 -/
def bits_Mul.f (a0 : Int) (a1 : Int) : Option (Int × Int) := (bits_Mul64.f a0 a1).bind fun bt103 => (some (bt103.1, bt103.2))
set_option maxHeartbeats 8000000 in
set_option maxRecDepth 100000 in
theorem bits_Mul.calls (a0 : Int) (a1 : Int) (r1 : Int) (r2 : Int) (w : World) (h : bits_Mul.f a0 a1 = some (r1, r2)) :
    Calls Try.prog 65 #[.int .u64 a0, .int .u64 a1] w fun e w' => e = .returned (.tuple #[.int .u64 r1, .int .u64 r2]) ∧ Drawn0 w w' := by
  have H : ((bits_Mul64.f a0 a1).bind fun bt103 => (some (bt103.1, bt103.2))) = some (r1, r2) := h
  clear h
  replace H := Option.bind_eq_some_iff.mp H
  obtain ⟨⟨t103, t104⟩, A30, H⟩ := H
  replace H : (some (t103, t104)) = some (r1, r2) := H
  have A3 := Aside0.mk A30
  clear A30
  simp only [Option.some.injEq, Prod.mk.injEq] at H
  obtain ⟨rfl, rfl⟩ := H
  go_enter Try.func65, Try.ntmps65
  go_wp2_with (first | ((with_reducible refine gate_callee (f := 70) rfl ?_); refine goesL_ (some 25) rfl rfl Try.func70 (by kernel_rfl) rfl #[.int .u64 a0, .int .u64 a1] rfl (by (try simp only [List.map_toArray, List.map_cons, List.map_nil]); first | done | rfl | (simp only [List.length_drop, List.length_take]; rfl)) ?_; (with_reducible refine (bits_Mul64.calls a0 a1 t103 t104 _ A3.out).mono ?_); rintro e w' ⟨rfl, ⟨nd, rfl⟩⟩; refine ⟨_, rfl, ?_⟩))
  go_ret2
  exact ⟨by first | rfl | (simp; done) | (simp [*]; done), by repeat (first | exact Drawn0.refl _ | apply Drawn0.step)⟩

/-! ### slices_Repeat_int64_int64: function 53 -/
def slices_Repeat_int64_int64.f (l0 : List Int) (a1 : Int) : Option (List Int) := if l0.length = 1 then (if 0 ≤ a1 then (if a1 ≤ 1000000 then some (List.replicate a1.toNat (l0.getD 0 0)) else none) else none) else none
theorem slices_Repeat_int64_int64_mul (n : Nat) (h : n ≤ 1000000) : bits_Mul.f 1 (n : Int) = some (0, (n : Int)) := by
  have h1 : Go.bits .and .u64 ((1 : Nat) : Int) ((4294967295 : Nat) : Int) = ((1 : Nat) : Int) := by rw [Go.u64_and_nat 1 4294967295 (by decide) (by decide)]; rfl
  have h2 : Go.bits .and .u64 ((n : Nat) : Int) ((4294967295 : Nat) : Int) = ((n : Nat) : Int) := by
    rw [Go.u64_and_nat n 4294967295 (by omega) (by decide), show (4294967295 : Nat) = 2 ^ 32 - 1 by decide, Nat.and_two_pow_sub_one_eq_mod]
    omega
  have h3 : Go.bits .and .u64 ((0 : Nat) : Int) ((4294967295 : Nat) : Int) = ((0 : Nat) : Int) := by rw [Go.u64_and_nat 0 4294967295 (by decide) (by decide)]; rfl
  have wu : ∀ x : Int, IntKind.u64.wrap x = x % 18446744073709551616 := fun x => by simp [IntKind.wrap, IntKind.bits, IntKind.signed]
  simp only [Int.natCast_one, Int.cast_ofNat_Int, Int.natCast_zero] at h1 h2 h3
  unfold bits_Mul.f bits_Mul64.f
  rw [h1, h2]
  simp only [Option.bind_some, wu, Int.one_mul]
  have e1 : ((1 : Int) / 4294967296) = 0 := by decide
  have e2 : ((n : Int) / 4294967296) = 0 := by omega
  rw [e1, e2]
  have e3 : ((0 : Int) * (n : Int) % 18446744073709551616 + ((n : Int) % 18446744073709551616) / 4294967296) % 18446744073709551616 = 0 := by omega
  rw [e3, h3]
  simp only [Option.some.injEq, Prod.mk.injEq]
  omega
set_option maxHeartbeats 8000000 in
set_option maxRecDepth 100000 in
theorem slices_Repeat_int64_int64.calls (A0 : Option Addr) (c0 : Nat) (l0 : List Int) (a1 : Int) (r : List Int) (w : World) (hr0 : Kd.C (Kd.int .i64) w A0 l0.length l0) (hc0 : l0.length ≤ c0) (h : slices_Repeat_int64_int64.f l0 a1 = some r) :
    Calls Try.prog 53 #[.slice A0 l0.length c0, .int .i64 a1] w fun e w' => ∃ v0_ : Value, e = .returned (v0_) ∧ Kd.R (Kd.int .i64) 2 w' w.heap.size (fun _ => True) v0_ r ∧ Below w.heap.size w w' := by
  have HR0 := Aside0.mk hr0
  have HB := Aside0.mk (Below.refl w.heap.size w)
  unfold slices_Repeat_int64_int64.f at h
  by_cases h1 : l0.length = 1
  case neg => rw [if_neg h1] at h; exact absurd h (by simp)
  by_cases h2 : 0 ≤ a1
  case neg => rw [if_pos h1, if_neg h2] at h; exact absurd h (by simp)
  by_cases h3 : a1 ≤ 1000000
  case neg => rw [if_pos h1, if_pos h2, if_neg h3] at h; exact absurd h (by simp)
  rw [if_pos h1, if_pos h2, if_pos h3] at h
  obtain rfl := Option.some.inj h
  obtain ⟨x, rfl⟩ := List.length_eq_one_iff.1 h1
  obtain ⟨N, rfl⟩ := Int.eq_ofNat_of_zero_le h2
  have hN : N ≤ 1000000 := by omega
  have HM := Aside0.mk (slices_Repeat_int64_int64_mul N hN)
  rw [Int.toNat_natCast]
  show Calls Try.prog 53 #[.slice A0 1 c0, .int .i64 (N : Int)] w fun e w' => ∃ v0_ : Value, e = .returned (v0_) ∧ Kd.R (Kd.int .i64) 2 w' w.heap.size (fun _ => True) v0_ (List.replicate N x) ∧ Below w.heap.size w w'
  have HC0 := Aside0.mk hc0
  obtain ⟨m0, hm0⟩ : ∃ m0, m0 = min 1 N := ⟨_, rfl⟩
  have HMIN := Aside0.mk (show min 1 (List.replicate N (0 : Int)).length = m0 by rw [hm0]; simp)
  have HM0 := Aside0.mk hm0
  clear h h1 h2 h3 hr0 hc0 hm0
  go_enter Try.func53, Try.ntmps53
  go_wp2_with (first
    | (go_at_call 65; refine (bits_Mul.calls 1 (N : Int) 0 (N : Int) _ HM.out).mono ?_; rintro e w1 ⟨rfl, hd⟩; have HB1 := Aside0.mk (show Below w.heap.size w w1 by obtain ⟨q_, rfl⟩ := hd; exact pw_below_drewN (Below.refl _ _) q_); clear hd)
    | ((with_reducible refine gate_dst (N := 30) rfl ?_); refine Kd.R_make (Kd.int .i64) (w0 := w) w.heap.size 2 rfl (N := 30) rfl 23 _ _ rfl (N : Int) rfl rfl Try.underlying23 (.int .i64 0) 8 info2 rfl (by decide) (by omega) (0 : Int) (ok := fun _ => True) (okp := fun _ => True) rfl (fun _ hk => hk) trivial (by omega) (by rw [Int.toNat_natCast]; omega) HB1.out (below_size HB1.out) ?_; intro v2 w2 ho hb hg_ hn_; clear hg_ hn_; rw [Int.toNat_natCast] at ho; have HO2 := Aside0.mk ho; have HB2 := Aside0.mk hb; clear ho hb)
    | ((with_reducible refine gate_dst (N := 33) rfl ?_); refine Kd.R_copy (0 : Int) (w0 := w) w.heap.size rfl (.tmp 31) (.tmp 32) 23 23 2 rfl Try.underlying23 (by kernel_rfl) v2 (List.replicate N (0 : Int)) [x] A0 1 c0 (fun _ => True) rfl rfl HO2.out (Kd.C_below HR0.out HB2.out) HB2.out (below_size HB2.out) ?_; intro w3 ho hb hg_; clear hg_; rw [HMIN.out] at ho ⊢; have HO3 := Aside0.mk ho; have HB3 := Aside0.mk hb; clear ho hb)
    )
  obtain ⟨L1, hL1⟩ : ∃ L1 : List Int, L1 = [x].take m0 ++ (List.replicate N (0 : Int)).drop m0 := ⟨_, rfl⟩
  have hlen : L1.length = N := by rw [hL1, HM0.out]; simp; omega
  have HO := Aside0.mk (show Kd.R (Kd.int .i64) 2 w3 w.heap.size (fun _ => True) v2 L1 by rw [hL1]; exact HO3.out)
  have hhead : 1 ≤ N → L1.take 1 = [x] := fun h => by rw [hL1, HM0.out, Nat.min_eq_left h]; simp
  clear HO2 HO3 HB1 HB2 HMIN hL1 HM HR0 HC0
  rcases Nat.eq_zero_or_pos N with rfl | hpos
  · obtain rfl : m0 = 0 := by rw [HM0.out]; rfl
    obtain ⟨Ao, co, rfl⟩ := Kd.R_slice HO.out
    rw [hlen]
    have hL0 : L1 = [] := List.eq_nil_of_length_eq_zero hlen
    have HL := Aside0.mk hL0
    clear hL0 hhead hlen
    go_loopw [8] (fun v8 wr => v8 = .int .i64 0 ∧ Aside0 (wr = w3)) (fun _ _ => 0)
    case atStart => exact ⟨rfl, ⟨rfl⟩⟩
    case round =>
      obtain ⟨rfl, HW⟩ := hrel
      obtain rfl := HW.out
      clear HW
      go_wp2
      go_ret
      exact ⟨_, rfl, by have h_ := HO.out; rw [HL.out] at h_; exact h_, HB3.out⟩
  · obtain ⟨g, cap, cur, hv, hbg, hh, hnc, hcm, hsz, htk⟩ := H.R_unpack HO.out (by omega)
    rw [hlen] at hv hnc htk
    subst hv
    obtain rfl : m0 = 1 := by rw [HM0.out, Nat.min_eq_left hpos]
    have HS := Aside0.mk (show H.repSt .i64 2 w w3 g cap 1 x from ⟨HB3.out, hbg, hcm, cur, hh, hsz, by
      have h1 := congrArg (List.take 1) htk
      rw [List.take_take, Nat.min_eq_left hpos, ← List.map_take, hhead hpos] at h1
      exact h1⟩)
    have HBG := Aside0.mk hbg
    have HCM := Aside0.mk hcm
    clear HO HB3 htk hsz hh hhead hlen hbg hcm
    obtain ⟨i0, hi0, _, hsz0, _⟩ := info_parts info2
    go_loopw [8] (fun v8 wr => ∃ k : Nat, 1 ≤ k ∧ k ≤ N ∧ v8 = .int .i64 k ∧ Aside0 (H.repSt .i64 2 w wr g cap k x)) (fun v8 _ => N - (intOf v8).toNat)
    case atStart => exact ⟨1, Nat.le_refl _, hpos, rfl, HS⟩
    case round =>
      clear HS
      obtain ⟨k, hk1, hkN, rfl, HS⟩ := hrel
      by_cases hlt : k < N
      · have hltz : (k : Int) < (N : Int) := by omega
        have hA := cut_to (P := Try.prog) 23 2 .i64 Try.underlying23 hi0 (some ⟨g, 0, none⟩) N cap (k : Int) (by omega) (by omega) hnc
        have hD := cut_from (P := Try.prog) 23 2 .i64 Try.underlying23 hi0 1 hsz0 (some ⟨g, 0, none⟩) N cap (k : Int) (by omega) (by omega)
        have hA2 : ∀ W : World, (Instr.slice 23 (.slice (some ⟨g, 0, none⟩) N cap) none (some (.int .i64 (k : Int))) none).run Try.prog W = .ok (.slice (some ⟨g, 0, none⟩) k cap) W := fun W => by have h_ := hA W; rw [Int.toNat_natCast] at h_; exact h_
        have hD2 : ∀ W : World, (Instr.slice 23 (.slice (some ⟨g, 0, none⟩) N cap) (some (.int .i64 (k : Int))) none none).run Try.prog W = .ok (.slice (some ⟨g, k, none⟩) (N - k) (cap - k)) W := fun W => by
          have h_ := hD W
          rw [Int.toNat_natCast, if_neg (show ¬ cap = k by omega)] at h_
          rw [h_]
          simp [Addr.add, show ¬ k = 0 by omega]
        clear hA hD
        obtain ⟨cur, hh, hsz, htk⟩ := HS.out.row
        have HSP := Aside0.mk (H.rep_splice (k := .i64) (x := x) (m := k) (j := min k (N - k)) (N := N) hkN (Nat.min_le_left _ _) (by omega) htk)
        have HH := Aside0.mk hh
        have HSZ := Aside0.mk hsz
        have HTK := Aside0.mk htk
        clear hh hsz htk
        have HSRC := Aside0.mk (show ∀ (W : World), W.heap[g]? = some (.cells cur.toArray 2 (0, 0)) → ∀ (j : Nat) (v : Value), (List.replicate (min k (N - k)) (Value.int .i64 x))[j]? = some v → W.cell? ((⟨g, 0, none⟩ : Addr).add j) = some v by
          intro W hW j v hv
          rw [List.getElem?_replicate] at hv
          split at hv
          · injection hv with hv
            subst hv
            have h1 : (cur.take k)[j]? = some (.int .i64 x) := by rw [HTK.out, List.getElem?_replicate, if_pos (by omega)]
            rw [List.getElem?_take] at h1
            split at h1
            · rw [show ((⟨g, 0, none⟩ : Addr).add j) = ⟨g, j, none⟩ by cases j <;> simp [Addr.add], H.cell_list hW]; exact h1
            · cases h1
          · cases hv)
        have HL := Aside0.mk (show k + (List.replicate (min k (N - k)) (Value.int .i64 x)).length ≤ cur.length by have := HSZ.out; simp; omega)
        have H1 := Aside0.mk (show ∀ v ∈ List.replicate (min k (N - k)) (Value.int .i64 x), v.oneCell' = true from fun v hv => by rw [(List.mem_replicate.1 hv).2]; rfl)
        have HMN := Aside0.mk (show (List.replicate (min k (N - k)) (Value.int .i64 x)).length = Nat.min k (N - k) by simp)
        go_wp2
        refine start_ (n := 10) (S := fun w' => True) (ds := []) #[false, false, false, false, false, false, false, false, false, false] (by kernel_rfl) rfl rfl trivial (fun hHeld => ?_)
        refine pure_ (i := 0) (N := some 38) (v := ?_) (a' := ?_) #[true, false, false, false, false, false, false, false, false, false] rfl rfl (by kernel_rfl) (fun _ _ _ h => h) (Or.inl ⟨by rfl, ?_⟩) ?_ ?_
        rotate_left
        · intro w'
          go_simp
          with_reducible rfl
        rotate_left
        · simp only [Act.put, List.setIfInBounds_toArray, List.set_cons_zero, List.set_cons_succ, i64_w, i32_w]
          rfl
        refine pure_ (i := 1) (N := some 39) (v := ?_) (a' := ?_) #[true, true, false, false, false, false, false, false, false, false] rfl rfl (by kernel_rfl) (fun _ _ _ h => h) (Or.inl ⟨by rfl, ?_⟩) ?_ ?_
        rotate_left
        · intro w'
          go_simp
          with_reducible rfl
        rotate_left
        · simp only [Act.put, List.setIfInBounds_toArray, List.set_cons_zero, List.set_cons_succ, i64_w, i32_w]
          rfl
        refine pure_ (i := 2) (N := some 40) (v := ?_) (a' := ?_) #[true, true, true, false, false, false, false, false, false, false] rfl rfl (by kernel_rfl) (fun _ _ _ h => h) (Or.inl ⟨by rfl, ?_⟩) ?_ ?_
        rotate_left
        · intro w'
          go_simp
          with_reducible rfl
        rotate_left
        · simp only [Act.put, List.setIfInBounds_toArray, List.set_cons_zero, List.set_cons_succ, i64_w, i32_w]
          rfl
        refine pure_ (i := 3) (N := some 41) (v := ?_) (a' := ?_) #[true, true, true, true, false, false, false, false, false, false] rfl rfl (by kernel_rfl) (fun _ _ _ h => h) (Or.inl ⟨by rfl, ?_⟩) ?_ ?_
        rotate_left
        · intro w'
          go_simp
          with_reducible rfl
        rotate_left
        · simp only [Act.put, List.setIfInBounds_toArray, List.set_cons_zero, List.set_cons_succ, i64_w, i32_w]
          rfl
        refine pure_ (i := 4) (N := some 42) (v := ?_) (a' := ?_) #[true, true, true, true, true, false, false, false, false, false] rfl rfl (by kernel_rfl) (fun _ _ _ h => h) (Or.inl ⟨by rfl, ?_⟩) ?_ ?_
        rotate_left
        · intro w'
          go_simp
          with_reducible rfl
        rotate_left
        · simp only [Act.put, List.setIfInBounds_toArray, List.set_cons_zero, List.set_cons_succ, i64_w, i32_w]
          rfl
        refine pure_ (i := 5) (N := some 43) (v := ?_) (a' := ?_) #[true, true, true, true, true, true, false, false, false, false] rfl rfl (by kernel_rfl) (fun _ _ _ h => h) (Or.inl ⟨by rfl, ?_⟩) ?_ ?_
        rotate_left
        · intro w'
          go_simp
          with_reducible rfl
        rotate_left
        · simp only [Act.put, List.setIfInBounds_toArray, List.set_cons_zero, List.set_cons_succ, i64_w, i32_w]
          rfl
        refine pure_ (i := 6) (N := some 44) (v := ?_) (a' := ?_) #[true, true, true, true, true, true, true, false, false, false] rfl rfl (by kernel_rfl) (fun _ _ _ h => h) (Or.inl ⟨by rfl, ?_⟩) ?_ ?_
        rotate_left
        · intro w'
          go_simp
          with_reducible rfl
        rotate_left
        · simp only [Act.put, List.setIfInBounds_toArray, List.set_cons_zero, List.set_cons_succ, i64_w, i32_w]
          rfl
        refine one_ (i := 7) (N := some 45) #[true, true, true, true, true, true, true, true, false, false] rfl rfl (by kernel_rfl) (by decide) (fun K hK => ?_)
        refine step_copy_splice rfl (.tmp 41) (.tmp 44) 23 23 rfl 2 Try.underlying23 (by kernel_rfl) (some ⟨g, k, none⟩) (some ⟨g, 0, none⟩) (N - k) (cap - k) k cap rfl rfl g k cur 2 HH.out (List.replicate (min k (N - k)) (.int .i64 x)) HMN.out (fun _ => ⟨rfl, _, rfl, HSRC.out _ HH.out⟩) HL.out H1.out w.heap.size w (below_drew1 HS.out.below) HBG.out ?_
        intro w4 hg4 hb4
        refine hK.out _ _ trivial (fun hHeld => ?_)
        clear hK K
        refine norm_ (a' := ?_) ?_ ?_
        rotate_left
        · show Act.put _ (some 45) _ = _
          simp only [Act.put, List.setIfInBounds_toArray, List.set_cons_zero, List.set_cons_succ, i64_w, i32_w]
          rfl
        refine pure_ (i := 8) (N := some 46) (v := ?_) (a' := ?_) #[true, true, true, true, true, true, true, true, true, false] rfl rfl (by kernel_rfl) (fun _ _ _ h => h) (Or.inl ⟨by rfl, ?_⟩) ?_ ?_
        rotate_left
        · intro w'
          go_simp
          with_reducible rfl
        rotate_left
        · simp only [Act.put, List.setIfInBounds_toArray, List.set_cons_zero, List.set_cons_succ, i64_w, i32_w]
          rfl
        refine pure_ (i := 9) (N := some 8) (v := ?_) (a' := ?_) #[true, true, true, true, true, true, true, true, true, true] rfl rfl (by kernel_rfl) (fun _ _ _ h => h) (Or.inl ⟨by rfl, ?_⟩) ?_ ?_
        rotate_left
        · intro w'
          go_simp
          with_reducible rfl
        rotate_left
        · simp only [Act.put, List.setIfInBounds_toArray, List.set_cons_zero, List.set_cons_succ, i64_w, i32_w]
          rfl
        refine done_ (by kernel_rfl) ?_
        have HW := Aside0.mk (show wrap64 ((k : Int) + ((min k (N - k) : Nat) : Int)) = ((k + min k (N - k) : Nat) : Int) by unfold wrap64; omega)
        go_roundw
        case measure => rw [HW.out]; simp [intOf]; omega
        case rel => (repeat apply Exists.intro); exact ⟨⟨k + min k (N - k), by omega, by omega, by rw [HW.out], ⟨hb4, HBG.out, HCM.out, _, hg4.out, by rw [HSP.out.1]; exact HSZ.out, HSP.out.2⟩⟩, rfl⟩
      · have hltz : ¬ (k : Int) < (N : Int) := by omega
        obtain rfl : k = N := by omega
        go_wp2
        go_ret
        obtain ⟨cur, h1, h2, h3⟩ := HS.out.row
        exact ⟨_, rfl, by have h_ := H.R_pack (k := .i64) (xs := List.replicate k x) HBG.out h1 (by rw [List.length_replicate]; exact hnc) HCM.out h2 (by rw [List.length_replicate, h3]; simp); rw [List.length_replicate] at h_; exact h_, HS.out.below⟩


/-! ### relax_row_int64: function 38 -/
def relax_row_int64.f (a0 : Int) (a1 : Int) : Option (List Int) := (slices_Repeat_int64_int64.f (([a1] : List Int)) a0).bind fun t108 => (some t108)
set_option maxHeartbeats 8000000 in
set_option maxRecDepth 100000 in
theorem relax_row_int64.calls (a0 : Int) (a1 : Int) (r : List Int) (w : World) (h : relax_row_int64.f a0 a1 = some r) :
    Calls Try.prog 38 #[.int .i64 a0, .int .i64 a1] w fun e w' => ∃ v0_ : Value, e = .returned (v0_) ∧ Kd.R (Kd.int .i64) 2 w' w.heap.size (fun _ => True) v0_ r ∧ Below w.heap.size w w' := by
  have HB := Aside0.mk (Below.refl w.heap.size w)
  have H : ((slices_Repeat_int64_int64.f (([a1] : List Int)) a0).bind fun t108 => (some t108)) = some r := h
  clear h
  obtain ⟨y105, hy105⟩ : ∃ y_ : List Int, y_ = (([a1] : List Int)) := ⟨_, rfl⟩
  replace H : ((slices_Repeat_int64_int64.f y105 a0).bind fun t108 => (some t108)) = some r := by first | (rw [hy105]; with_reducible exact H) | (have H2_ := (Option.bind_some _ _).symm.trans H; rw [hy105]; with_reducible exact H2_) | (have H2_ := (Option.bind_some _ _).symm.trans H; with_reducible exact H2_) | with_reducible exact H | (rw [hy105]; exact H) | exact H
  have Ny105 := Aside0.mk hy105
  clear hy105
  replace H := Option.bind_eq_some_iff.mp H
  obtain ⟨t108, A30, H⟩ := H
  replace H : (some t108) = some r := H
  have A3 := Aside0.mk A30
  clear A30
  obtain rfl := Option.some.inj H
  go_enter Try.func38, Try.ntmps38
  go_wp2_with (first | ((with_reducible refine gate_dst (N := 6) rfl ?_); refine Kd.R_lit (Kd.int .i64) _ 2 ?hg (N := 6) ?hd (xs := ([a1] : List Int)) (inner := [.int .i64 a1]) (ok := fun _ => True) (okp := fun _ => True) ?hr ?hp (fun _ hk => hk) trivial (Below.refl _ _) (Nat.le_refl _) (by simp) ?_; (case hd => rfl); (case hg => rfl); (case hr => first | (go_simp; done) | (go_simp; rfl)); (case hp => exact (Reps.one (show Kd.M (Kd.int .i64) _ _ _ a1 [.int .i64 a1] from rfl) (Reps.none _ _))); intro v106 w4 ho5 hb hg_ hnew_; clear hg_ hnew_; (first | rw [← Ny105.out] at ho5 | (simp only [Int.reduceToNat] at ho5; rw [← Ny105.out] at ho5)); have n0_ := Aside0.mk (Kd.R_lower ho5 (below_size (by repeat (first | (with_reducible first | exact HB.out | apply below_alloc | apply pw_below_drewN | apply below_drew1) | exact HB.out)))); have n1_ := Aside0.mk (below_step (by repeat (first | (with_reducible first | exact HB.out | apply below_alloc | apply pw_below_drewN | apply below_drew1) | exact HB.out)) hb); clear HB; have HO107 := n0_; have HB := n1_; clear n0_ n1_; clear hb ho5; obtain ⟨Ao6, co6, eo6⟩ := Kd.R_slice HO107.out; subst eo6) | ((with_reducible refine gate_callee (f := 53) rfl ?_); refine goesL_ (some 8) rfl rfl Try.func53 (by kernel_rfl) rfl #[.slice Ao6 y105.length co6, .int .i64 a0] rfl (by (try simp only [List.map_toArray, List.map_cons, List.map_nil]); first | done | rfl | (simp only [List.length_drop, List.length_take]; rfl)) ?_; (with_reducible refine (slices_Repeat_int64_int64.calls _ _ y105 a0 t108 _ ?side1 ?side2 A3.out).mono ?_); (case side1 => repeat (first | exact (Kd.R_reads' HO107.out).2.2 | (with_reducible refine Kd.C_alloc ?_ _) | (with_reducible refine Kd.C_drewN ?_ _) | (with_reducible refine Kd.C_drew ?_))); (case side2 => exact (Kd.R_reads' HO107.out).2.1); rintro e w7 ⟨v109, rfl, ho0, hb⟩; refine ⟨_, rfl, ?_⟩; have n0_ := Aside0.mk (Kd.R_elder' (by (with_reducible repeat (first | apply Kd.R_alloc | apply Kd.R_drewN | apply Kd.R_drew)); exact HO107.out) (Kd.R_base ho0) hb); have n1_ := Aside0.mk (Kd.R_lower (Kd.R_new' ho0 (Kd.R_lt (by (with_reducible repeat (first | apply Kd.R_alloc | apply Kd.R_drewN | apply Kd.R_drew)); exact HO107.out))) (below_size (by repeat (first | (with_reducible first | exact HB.out | apply below_alloc | apply pw_below_drewN | apply below_drew1) | exact HB.out)))); have n2_ := Aside0.mk (below_step (by repeat (first | (with_reducible first | exact HB.out | apply below_alloc | apply pw_below_drewN | apply below_drew1) | exact HB.out)) hb); clear HO107; clear HB; have HO107 := n0_; have HO110 := n1_; have HB := n2_; clear n0_ n1_ n2_; (try clear hb); (try clear hb2); (try clear hk); (try clear hi); (try clear ho0)))
  go_ret
  exact ⟨_, by first | rfl | (simp [errW_none, errW_some] <;> rfl) | (simp [*, errW_none, errW_some] <;> rfl), by (with_reducible repeat (first | apply Kd.R_alloc | apply Kd.R_drewN | apply Kd.R_drew)); exact Kd.R_mono HO110.out (fun _ hk => trivial), by repeat (first | (with_reducible first | exact HB.out | apply below_alloc | apply pw_below_drewN | apply below_drew1) | exact HB.out)⟩

/-! ### slices_Repeat_int_int: function 54 -/
def slices_Repeat_int_int.f (l0 : List Int) (a1 : Int) : Option (List Int) := if l0.length = 1 then (if 0 ≤ a1 then (if a1 ≤ 1000000 then some (List.replicate a1.toNat (l0.getD 0 0)) else none) else none) else none
theorem slices_Repeat_int_int_mul (n : Nat) (h : n ≤ 1000000) : bits_Mul.f 1 (n : Int) = some (0, (n : Int)) := by
  have h1 : Go.bits .and .u64 ((1 : Nat) : Int) ((4294967295 : Nat) : Int) = ((1 : Nat) : Int) := by rw [Go.u64_and_nat 1 4294967295 (by decide) (by decide)]; rfl
  have h2 : Go.bits .and .u64 ((n : Nat) : Int) ((4294967295 : Nat) : Int) = ((n : Nat) : Int) := by
    rw [Go.u64_and_nat n 4294967295 (by omega) (by decide), show (4294967295 : Nat) = 2 ^ 32 - 1 by decide, Nat.and_two_pow_sub_one_eq_mod]
    omega
  have h3 : Go.bits .and .u64 ((0 : Nat) : Int) ((4294967295 : Nat) : Int) = ((0 : Nat) : Int) := by rw [Go.u64_and_nat 0 4294967295 (by decide) (by decide)]; rfl
  have wu : ∀ x : Int, IntKind.u64.wrap x = x % 18446744073709551616 := fun x => by simp [IntKind.wrap, IntKind.bits, IntKind.signed]
  simp only [Int.natCast_one, Int.cast_ofNat_Int, Int.natCast_zero] at h1 h2 h3
  unfold bits_Mul.f bits_Mul64.f
  rw [h1, h2]
  simp only [Option.bind_some, wu, Int.one_mul]
  have e1 : ((1 : Int) / 4294967296) = 0 := by decide
  have e2 : ((n : Int) / 4294967296) = 0 := by omega
  rw [e1, e2]
  have e3 : ((0 : Int) * (n : Int) % 18446744073709551616 + ((n : Int) % 18446744073709551616) / 4294967296) % 18446744073709551616 = 0 := by omega
  rw [e3, h3]
  simp only [Option.some.injEq, Prod.mk.injEq]
  omega
set_option maxHeartbeats 8000000 in
set_option maxRecDepth 100000 in
theorem slices_Repeat_int_int.calls (A0 : Option Addr) (c0 : Nat) (l0 : List Int) (a1 : Int) (r : List Int) (w : World) (hr0 : Kd.C (Kd.int .i64) w A0 l0.length l0) (hc0 : l0.length ≤ c0) (h : slices_Repeat_int_int.f l0 a1 = some r) :
    Calls Try.prog 54 #[.slice A0 l0.length c0, .int .i64 a1] w fun e w' => ∃ v0_ : Value, e = .returned (v0_) ∧ Kd.R (Kd.int .i64) 3 w' w.heap.size (fun _ => True) v0_ r ∧ Below w.heap.size w w' := by
  have HR0 := Aside0.mk hr0
  have HB := Aside0.mk (Below.refl w.heap.size w)
  unfold slices_Repeat_int_int.f at h
  by_cases h1 : l0.length = 1
  case neg => rw [if_neg h1] at h; exact absurd h (by simp)
  by_cases h2 : 0 ≤ a1
  case neg => rw [if_pos h1, if_neg h2] at h; exact absurd h (by simp)
  by_cases h3 : a1 ≤ 1000000
  case neg => rw [if_pos h1, if_pos h2, if_neg h3] at h; exact absurd h (by simp)
  rw [if_pos h1, if_pos h2, if_pos h3] at h
  obtain rfl := Option.some.inj h
  obtain ⟨x, rfl⟩ := List.length_eq_one_iff.1 h1
  obtain ⟨N, rfl⟩ := Int.eq_ofNat_of_zero_le h2
  have hN : N ≤ 1000000 := by omega
  have HM := Aside0.mk (slices_Repeat_int_int_mul N hN)
  rw [Int.toNat_natCast]
  show Calls Try.prog 54 #[.slice A0 1 c0, .int .i64 (N : Int)] w fun e w' => ∃ v0_ : Value, e = .returned (v0_) ∧ Kd.R (Kd.int .i64) 3 w' w.heap.size (fun _ => True) v0_ (List.replicate N x) ∧ Below w.heap.size w w'
  have HC0 := Aside0.mk hc0
  obtain ⟨m0, hm0⟩ : ∃ m0, m0 = min 1 N := ⟨_, rfl⟩
  have HMIN := Aside0.mk (show min 1 (List.replicate N (0 : Int)).length = m0 by rw [hm0]; simp)
  have HM0 := Aside0.mk hm0
  clear h h1 h2 h3 hr0 hc0 hm0
  go_enter Try.func54, Try.ntmps54
  go_wp2_with (first
    | (go_at_call 65; refine (bits_Mul.calls 1 (N : Int) 0 (N : Int) _ HM.out).mono ?_; rintro e w1 ⟨rfl, hd⟩; have HB1 := Aside0.mk (show Below w.heap.size w w1 by obtain ⟨q_, rfl⟩ := hd; exact pw_below_drewN (Below.refl _ _) q_); clear hd)
    | ((with_reducible refine gate_dst (N := 30) rfl ?_); refine Kd.R_make (Kd.int .i64) (w0 := w) w.heap.size 3 rfl (N := 30) rfl 37 _ _ rfl (N : Int) rfl rfl Try.underlying37 (.int .i64 0) 8 info3 rfl (by decide) (by omega) (0 : Int) (ok := fun _ => True) (okp := fun _ => True) rfl (fun _ hk => hk) trivial (by omega) (by rw [Int.toNat_natCast]; omega) HB1.out (below_size HB1.out) ?_; intro v2 w2 ho hb hg_ hn_; clear hg_ hn_; rw [Int.toNat_natCast] at ho; have HO2 := Aside0.mk ho; have HB2 := Aside0.mk hb; clear ho hb)
    | ((with_reducible refine gate_dst (N := 33) rfl ?_); refine Kd.R_copy (0 : Int) (w0 := w) w.heap.size rfl (.tmp 31) (.tmp 32) 37 37 3 rfl Try.underlying37 (by kernel_rfl) v2 (List.replicate N (0 : Int)) [x] A0 1 c0 (fun _ => True) rfl rfl HO2.out (Kd.C_below HR0.out HB2.out) HB2.out (below_size HB2.out) ?_; intro w3 ho hb hg_; clear hg_; rw [HMIN.out] at ho ⊢; have HO3 := Aside0.mk ho; have HB3 := Aside0.mk hb; clear ho hb)
    )
  obtain ⟨L1, hL1⟩ : ∃ L1 : List Int, L1 = [x].take m0 ++ (List.replicate N (0 : Int)).drop m0 := ⟨_, rfl⟩
  have hlen : L1.length = N := by rw [hL1, HM0.out]; simp; omega
  have HO := Aside0.mk (show Kd.R (Kd.int .i64) 3 w3 w.heap.size (fun _ => True) v2 L1 by rw [hL1]; exact HO3.out)
  have hhead : 1 ≤ N → L1.take 1 = [x] := fun h => by rw [hL1, HM0.out, Nat.min_eq_left h]; simp
  clear HO2 HO3 HB1 HB2 HMIN hL1 HM HR0 HC0
  rcases Nat.eq_zero_or_pos N with rfl | hpos
  · obtain rfl : m0 = 0 := by rw [HM0.out]; rfl
    obtain ⟨Ao, co, rfl⟩ := Kd.R_slice HO.out
    rw [hlen]
    have hL0 : L1 = [] := List.eq_nil_of_length_eq_zero hlen
    have HL := Aside0.mk hL0
    clear hL0 hhead hlen
    go_loopw [8] (fun v8 wr => v8 = .int .i64 0 ∧ Aside0 (wr = w3)) (fun _ _ => 0)
    case atStart => exact ⟨rfl, ⟨rfl⟩⟩
    case round =>
      obtain ⟨rfl, HW⟩ := hrel
      obtain rfl := HW.out
      clear HW
      go_wp2
      go_ret
      exact ⟨_, rfl, by have h_ := HO.out; rw [HL.out] at h_; exact h_, HB3.out⟩
  · obtain ⟨g, cap, cur, hv, hbg, hh, hnc, hcm, hsz, htk⟩ := H.R_unpack HO.out (by omega)
    rw [hlen] at hv hnc htk
    subst hv
    obtain rfl : m0 = 1 := by rw [HM0.out, Nat.min_eq_left hpos]
    have HS := Aside0.mk (show H.repSt .i64 3 w w3 g cap 1 x from ⟨HB3.out, hbg, hcm, cur, hh, hsz, by
      have h1 := congrArg (List.take 1) htk
      rw [List.take_take, Nat.min_eq_left hpos, ← List.map_take, hhead hpos] at h1
      exact h1⟩)
    have HBG := Aside0.mk hbg
    have HCM := Aside0.mk hcm
    clear HO HB3 htk hsz hh hhead hlen hbg hcm
    obtain ⟨i0, hi0, _, hsz0, _⟩ := info_parts info3
    go_loopw [8] (fun v8 wr => ∃ k : Nat, 1 ≤ k ∧ k ≤ N ∧ v8 = .int .i64 k ∧ Aside0 (H.repSt .i64 3 w wr g cap k x)) (fun v8 _ => N - (intOf v8).toNat)
    case atStart => exact ⟨1, Nat.le_refl _, hpos, rfl, HS⟩
    case round =>
      clear HS
      obtain ⟨k, hk1, hkN, rfl, HS⟩ := hrel
      by_cases hlt : k < N
      · have hltz : (k : Int) < (N : Int) := by omega
        have hA := cut_to (P := Try.prog) 37 3 .i64 Try.underlying37 hi0 (some ⟨g, 0, none⟩) N cap (k : Int) (by omega) (by omega) hnc
        have hD := cut_from (P := Try.prog) 37 3 .i64 Try.underlying37 hi0 1 hsz0 (some ⟨g, 0, none⟩) N cap (k : Int) (by omega) (by omega)
        have hA2 : ∀ W : World, (Instr.slice 37 (.slice (some ⟨g, 0, none⟩) N cap) none (some (.int .i64 (k : Int))) none).run Try.prog W = .ok (.slice (some ⟨g, 0, none⟩) k cap) W := fun W => by have h_ := hA W; rw [Int.toNat_natCast] at h_; exact h_
        have hD2 : ∀ W : World, (Instr.slice 37 (.slice (some ⟨g, 0, none⟩) N cap) (some (.int .i64 (k : Int))) none none).run Try.prog W = .ok (.slice (some ⟨g, k, none⟩) (N - k) (cap - k)) W := fun W => by
          have h_ := hD W
          rw [Int.toNat_natCast, if_neg (show ¬ cap = k by omega)] at h_
          rw [h_]
          simp [Addr.add, show ¬ k = 0 by omega]
        clear hA hD
        obtain ⟨cur, hh, hsz, htk⟩ := HS.out.row
        have HSP := Aside0.mk (H.rep_splice (k := .i64) (x := x) (m := k) (j := min k (N - k)) (N := N) hkN (Nat.min_le_left _ _) (by omega) htk)
        have HH := Aside0.mk hh
        have HSZ := Aside0.mk hsz
        have HTK := Aside0.mk htk
        clear hh hsz htk
        have HSRC := Aside0.mk (show ∀ (W : World), W.heap[g]? = some (.cells cur.toArray 3 (0, 0)) → ∀ (j : Nat) (v : Value), (List.replicate (min k (N - k)) (Value.int .i64 x))[j]? = some v → W.cell? ((⟨g, 0, none⟩ : Addr).add j) = some v by
          intro W hW j v hv
          rw [List.getElem?_replicate] at hv
          split at hv
          · injection hv with hv
            subst hv
            have h1 : (cur.take k)[j]? = some (.int .i64 x) := by rw [HTK.out, List.getElem?_replicate, if_pos (by omega)]
            rw [List.getElem?_take] at h1
            split at h1
            · rw [show ((⟨g, 0, none⟩ : Addr).add j) = ⟨g, j, none⟩ by cases j <;> simp [Addr.add], H.cell_list hW]; exact h1
            · cases h1
          · cases hv)
        have HL := Aside0.mk (show k + (List.replicate (min k (N - k)) (Value.int .i64 x)).length ≤ cur.length by have := HSZ.out; simp; omega)
        have H1 := Aside0.mk (show ∀ v ∈ List.replicate (min k (N - k)) (Value.int .i64 x), v.oneCell' = true from fun v hv => by rw [(List.mem_replicate.1 hv).2]; rfl)
        have HMN := Aside0.mk (show (List.replicate (min k (N - k)) (Value.int .i64 x)).length = Nat.min k (N - k) by simp)
        go_wp2
        refine start_ (n := 10) (S := fun w' => True) (ds := []) #[false, false, false, false, false, false, false, false, false, false] (by kernel_rfl) rfl rfl trivial (fun hHeld => ?_)
        refine pure_ (i := 0) (N := some 38) (v := ?_) (a' := ?_) #[true, false, false, false, false, false, false, false, false, false] rfl rfl (by kernel_rfl) (fun _ _ _ h => h) (Or.inl ⟨by rfl, ?_⟩) ?_ ?_
        rotate_left
        · intro w'
          go_simp
          with_reducible rfl
        rotate_left
        · simp only [Act.put, List.setIfInBounds_toArray, List.set_cons_zero, List.set_cons_succ, i64_w, i32_w]
          rfl
        refine pure_ (i := 1) (N := some 39) (v := ?_) (a' := ?_) #[true, true, false, false, false, false, false, false, false, false] rfl rfl (by kernel_rfl) (fun _ _ _ h => h) (Or.inl ⟨by rfl, ?_⟩) ?_ ?_
        rotate_left
        · intro w'
          go_simp
          with_reducible rfl
        rotate_left
        · simp only [Act.put, List.setIfInBounds_toArray, List.set_cons_zero, List.set_cons_succ, i64_w, i32_w]
          rfl
        refine pure_ (i := 2) (N := some 40) (v := ?_) (a' := ?_) #[true, true, true, false, false, false, false, false, false, false] rfl rfl (by kernel_rfl) (fun _ _ _ h => h) (Or.inl ⟨by rfl, ?_⟩) ?_ ?_
        rotate_left
        · intro w'
          go_simp
          with_reducible rfl
        rotate_left
        · simp only [Act.put, List.setIfInBounds_toArray, List.set_cons_zero, List.set_cons_succ, i64_w, i32_w]
          rfl
        refine pure_ (i := 3) (N := some 41) (v := ?_) (a' := ?_) #[true, true, true, true, false, false, false, false, false, false] rfl rfl (by kernel_rfl) (fun _ _ _ h => h) (Or.inl ⟨by rfl, ?_⟩) ?_ ?_
        rotate_left
        · intro w'
          go_simp
          with_reducible rfl
        rotate_left
        · simp only [Act.put, List.setIfInBounds_toArray, List.set_cons_zero, List.set_cons_succ, i64_w, i32_w]
          rfl
        refine pure_ (i := 4) (N := some 42) (v := ?_) (a' := ?_) #[true, true, true, true, true, false, false, false, false, false] rfl rfl (by kernel_rfl) (fun _ _ _ h => h) (Or.inl ⟨by rfl, ?_⟩) ?_ ?_
        rotate_left
        · intro w'
          go_simp
          with_reducible rfl
        rotate_left
        · simp only [Act.put, List.setIfInBounds_toArray, List.set_cons_zero, List.set_cons_succ, i64_w, i32_w]
          rfl
        refine pure_ (i := 5) (N := some 43) (v := ?_) (a' := ?_) #[true, true, true, true, true, true, false, false, false, false] rfl rfl (by kernel_rfl) (fun _ _ _ h => h) (Or.inl ⟨by rfl, ?_⟩) ?_ ?_
        rotate_left
        · intro w'
          go_simp
          with_reducible rfl
        rotate_left
        · simp only [Act.put, List.setIfInBounds_toArray, List.set_cons_zero, List.set_cons_succ, i64_w, i32_w]
          rfl
        refine pure_ (i := 6) (N := some 44) (v := ?_) (a' := ?_) #[true, true, true, true, true, true, true, false, false, false] rfl rfl (by kernel_rfl) (fun _ _ _ h => h) (Or.inl ⟨by rfl, ?_⟩) ?_ ?_
        rotate_left
        · intro w'
          go_simp
          with_reducible rfl
        rotate_left
        · simp only [Act.put, List.setIfInBounds_toArray, List.set_cons_zero, List.set_cons_succ, i64_w, i32_w]
          rfl
        refine one_ (i := 7) (N := some 45) #[true, true, true, true, true, true, true, true, false, false] rfl rfl (by kernel_rfl) (by decide) (fun K hK => ?_)
        refine step_copy_splice rfl (.tmp 41) (.tmp 44) 37 37 rfl 3 Try.underlying37 (by kernel_rfl) (some ⟨g, k, none⟩) (some ⟨g, 0, none⟩) (N - k) (cap - k) k cap rfl rfl g k cur 3 HH.out (List.replicate (min k (N - k)) (.int .i64 x)) HMN.out (fun _ => ⟨rfl, _, rfl, HSRC.out _ HH.out⟩) HL.out H1.out w.heap.size w (below_drew1 HS.out.below) HBG.out ?_
        intro w4 hg4 hb4
        refine hK.out _ _ trivial (fun hHeld => ?_)
        clear hK K
        refine norm_ (a' := ?_) ?_ ?_
        rotate_left
        · show Act.put _ (some 45) _ = _
          simp only [Act.put, List.setIfInBounds_toArray, List.set_cons_zero, List.set_cons_succ, i64_w, i32_w]
          rfl
        refine pure_ (i := 8) (N := some 46) (v := ?_) (a' := ?_) #[true, true, true, true, true, true, true, true, true, false] rfl rfl (by kernel_rfl) (fun _ _ _ h => h) (Or.inl ⟨by rfl, ?_⟩) ?_ ?_
        rotate_left
        · intro w'
          go_simp
          with_reducible rfl
        rotate_left
        · simp only [Act.put, List.setIfInBounds_toArray, List.set_cons_zero, List.set_cons_succ, i64_w, i32_w]
          rfl
        refine pure_ (i := 9) (N := some 8) (v := ?_) (a' := ?_) #[true, true, true, true, true, true, true, true, true, true] rfl rfl (by kernel_rfl) (fun _ _ _ h => h) (Or.inl ⟨by rfl, ?_⟩) ?_ ?_
        rotate_left
        · intro w'
          go_simp
          with_reducible rfl
        rotate_left
        · simp only [Act.put, List.setIfInBounds_toArray, List.set_cons_zero, List.set_cons_succ, i64_w, i32_w]
          rfl
        refine done_ (by kernel_rfl) ?_
        have HW := Aside0.mk (show wrap64 ((k : Int) + ((min k (N - k) : Nat) : Int)) = ((k + min k (N - k) : Nat) : Int) by unfold wrap64; omega)
        go_roundw
        case measure => rw [HW.out]; simp [intOf]; omega
        case rel => (repeat apply Exists.intro); exact ⟨⟨k + min k (N - k), by omega, by omega, by rw [HW.out], ⟨hb4, HBG.out, HCM.out, _, hg4.out, by rw [HSP.out.1]; exact HSZ.out, HSP.out.2⟩⟩, rfl⟩
      · have hltz : ¬ (k : Int) < (N : Int) := by omega
        obtain rfl : k = N := by omega
        go_wp2
        go_ret
        obtain ⟨cur, h1, h2, h3⟩ := HS.out.row
        exact ⟨_, rfl, by have h_ := H.R_pack (k := .i64) (xs := List.replicate k x) HBG.out h1 (by rw [List.length_replicate]; exact hnc) HCM.out h2 (by rw [List.length_replicate, h3]; simp); rw [List.length_replicate] at h_; exact h_, HS.out.below⟩


/-! ### relax_row_int: function 39 -/
def relax_row_int.f (a0 : Int) (a1 : Int) : Option (List Int) := (slices_Repeat_int_int.f (([a1] : List Int)) a0).bind fun t114 => (some t114)
set_option maxHeartbeats 8000000 in
set_option maxRecDepth 100000 in
theorem relax_row_int.calls (a0 : Int) (a1 : Int) (r : List Int) (w : World) (h : relax_row_int.f a0 a1 = some r) :
    Calls Try.prog 39 #[.int .i64 a0, .int .i64 a1] w fun e w' => ∃ v0_ : Value, e = .returned (v0_) ∧ Kd.R (Kd.int .i64) 3 w' w.heap.size (fun _ => True) v0_ r ∧ Below w.heap.size w w' := by
  have HB := Aside0.mk (Below.refl w.heap.size w)
  have H : ((slices_Repeat_int_int.f (([a1] : List Int)) a0).bind fun t114 => (some t114)) = some r := h
  clear h
  obtain ⟨y111, hy111⟩ : ∃ y_ : List Int, y_ = (([a1] : List Int)) := ⟨_, rfl⟩
  replace H : ((slices_Repeat_int_int.f y111 a0).bind fun t114 => (some t114)) = some r := by first | (rw [hy111]; with_reducible exact H) | (have H2_ := (Option.bind_some _ _).symm.trans H; rw [hy111]; with_reducible exact H2_) | (have H2_ := (Option.bind_some _ _).symm.trans H; with_reducible exact H2_) | with_reducible exact H | (rw [hy111]; exact H) | exact H
  have Ny111 := Aside0.mk hy111
  clear hy111
  replace H := Option.bind_eq_some_iff.mp H
  obtain ⟨t114, A30, H⟩ := H
  replace H : (some t114) = some r := H
  have A3 := Aside0.mk A30
  clear A30
  obtain rfl := Option.some.inj H
  go_enter Try.func39, Try.ntmps39
  go_wp2_with (first | ((with_reducible refine gate_dst (N := 6) rfl ?_); refine Kd.R_lit (Kd.int .i64) _ 3 ?hg (N := 6) ?hd (xs := ([a1] : List Int)) (inner := [.int .i64 a1]) (ok := fun _ => True) (okp := fun _ => True) ?hr ?hp (fun _ hk => hk) trivial (Below.refl _ _) (Nat.le_refl _) (by simp) ?_; (case hd => rfl); (case hg => rfl); (case hr => first | (go_simp; done) | (go_simp; rfl)); (case hp => exact (Reps.one (show Kd.M (Kd.int .i64) _ _ _ a1 [.int .i64 a1] from rfl) (Reps.none _ _))); intro v112 w4 ho5 hb hg_ hnew_; clear hg_ hnew_; (first | rw [← Ny111.out] at ho5 | (simp only [Int.reduceToNat] at ho5; rw [← Ny111.out] at ho5)); have n0_ := Aside0.mk (Kd.R_lower ho5 (below_size (by repeat (first | (with_reducible first | exact HB.out | apply below_alloc | apply pw_below_drewN | apply below_drew1) | exact HB.out)))); have n1_ := Aside0.mk (below_step (by repeat (first | (with_reducible first | exact HB.out | apply below_alloc | apply pw_below_drewN | apply below_drew1) | exact HB.out)) hb); clear HB; have HO113 := n0_; have HB := n1_; clear n0_ n1_; clear hb ho5; obtain ⟨Ao6, co6, eo6⟩ := Kd.R_slice HO113.out; subst eo6) | ((with_reducible refine gate_callee (f := 54) rfl ?_); refine goesL_ (some 8) rfl rfl Try.func54 (by kernel_rfl) rfl #[.slice Ao6 y111.length co6, .int .i64 a0] rfl (by (try simp only [List.map_toArray, List.map_cons, List.map_nil]); first | done | rfl | (simp only [List.length_drop, List.length_take]; rfl)) ?_; (with_reducible refine (slices_Repeat_int_int.calls _ _ y111 a0 t114 _ ?side1 ?side2 A3.out).mono ?_); (case side1 => repeat (first | exact (Kd.R_reads' HO113.out).2.2 | (with_reducible refine Kd.C_alloc ?_ _) | (with_reducible refine Kd.C_drewN ?_ _) | (with_reducible refine Kd.C_drew ?_))); (case side2 => exact (Kd.R_reads' HO113.out).2.1); rintro e w7 ⟨v115, rfl, ho0, hb⟩; refine ⟨_, rfl, ?_⟩; have n0_ := Aside0.mk (Kd.R_elder' (by (with_reducible repeat (first | apply Kd.R_alloc | apply Kd.R_drewN | apply Kd.R_drew)); exact HO113.out) (Kd.R_base ho0) hb); have n1_ := Aside0.mk (Kd.R_lower (Kd.R_new' ho0 (Kd.R_lt (by (with_reducible repeat (first | apply Kd.R_alloc | apply Kd.R_drewN | apply Kd.R_drew)); exact HO113.out))) (below_size (by repeat (first | (with_reducible first | exact HB.out | apply below_alloc | apply pw_below_drewN | apply below_drew1) | exact HB.out)))); have n2_ := Aside0.mk (below_step (by repeat (first | (with_reducible first | exact HB.out | apply below_alloc | apply pw_below_drewN | apply below_drew1) | exact HB.out)) hb); clear HO113; clear HB; have HO113 := n0_; have HO116 := n1_; have HB := n2_; clear n0_ n1_ n2_; (try clear hb); (try clear hb2); (try clear hk); (try clear hi); (try clear ho0)))
  go_ret
  exact ⟨_, by first | rfl | (simp [errW_none, errW_some] <;> rfl) | (simp [*, errW_none, errW_some] <;> rfl), by (with_reducible repeat (first | apply Kd.R_alloc | apply Kd.R_drewN | apply Kd.R_drew)); exact Kd.R_mono HO116.out (fun _ hk => trivial), by repeat (first | (with_reducible first | exact HB.out | apply below_alloc | apply pw_below_drewN | apply below_drew1) | exact HB.out)⟩

/-! ### slices_Clone_int64_int64: function 55 -/
def slices_Clone_int64_int64.f (l0 : List Int) : Option (List Int) := if l0.length < 17592186044416 then some l0 else none
theorem slices_Clone_int64_int64_nil : Aside0 (∀ (a : Option Addr) (n c : Nat) (w : World), Sem.run Try.prog (binOp .eql 23 (.slice a n c) (.slice none 0 0)) w = .ok (.bool a.isNone) w) := ⟨fun a n c w => Go.run_eql_slice_nil w 23 2 a n c Try.underlying23⟩
set_option maxHeartbeats 8000000 in
set_option maxRecDepth 100000 in
theorem slices_Clone_int64_int64.calls (A0 : Option Addr) (c0 : Nat) (l0 : List Int) (r : List Int) (w : World) (hr0 : Kd.C (Kd.int .i64) w A0 l0.length l0) (hc0 : l0.length ≤ c0) (h : slices_Clone_int64_int64.f l0 = some r) :
    Calls Try.prog 55 #[.slice A0 l0.length c0] w fun e w' => ∃ v0_ : Value, e = .returned (v0_) ∧ Kd.R (Kd.int .i64) 2 w' w.heap.size (fun _ => True) v0_ r ∧ Below w.heap.size w w' := by
  have HR0 := Aside0.mk hr0
  have HB := Aside0.mk (Below.refl w.heap.size w)
  unfold slices_Clone_int64_int64.f at h
  by_cases hl : l0.length < 17592186044416
  · rw [if_pos hl] at h
    obtain rfl := Option.some.inj h
    have LM := Aside0.mk hl
    clear h hr0 hl
    cases A0 with
    | none =>
      have hn := slices_Clone_int64_int64_nil.out none l0.length c0
      have hnil : l0 = [] := by
        rcases Nat.eq_zero_or_pos l0.length with h0 | h0
        · exact List.eq_nil_of_length_eq_zero h0
        · obtain ⟨ad, e, _⟩ := HR0.out.2.2 h0
          cases e
      have HN := Aside0.mk hnil
      clear hnil
      go_enter Try.func55, Try.ntmps55
      go_wp2
      go_ret
      exact ⟨.slice none 0 0, rfl, by rw [HN.out]; exact Kd.R_nil _ _ _ _ _, HB.out⟩
    | some ad =>
      have hn := slices_Clone_int64_int64_nil.out (some ad) l0.length c0
      go_enter Try.func55, Try.ntmps55
      go_wp2_with (first
        | ((with_reducible refine gate_dst (N := 5) rfl ?_); refine Kd.R_lit (Kd.int .i64) _ 2 ?hg (N := 5) ?hd (xs := []) (inner := []) (ok := fun _ => True) (okp := fun _ => True) ?hr ?hp (fun _ hk => hk) trivial (Below.refl _ _) (Nat.le_refl _) (by simp) ?_; (case hd => rfl); (case hg => rfl); (case hr => first | (go_simp; done) | (go_simp; rfl)); (case hp => exact (Reps.none _ _)); intro v1 w1 ho hb hg_ hnew_; clear hg_ hnew_; have HO1 := Aside0.mk ho; have HB1 := Aside0.mk hb; clear ho hb)
        | (at_builtin; refine Kd.R_append_rows (Kd.int .i64) (w0 := w) w.heap.size rfl (.tmp 5) (.tmp 6) 23 2 (.int .i64 0) 8 rfl Try.underlying23 info2 rfl (by decide) (by omega) v1 [] l0 _ _ _ (fun _ => True) (fun _ => False) rfl rfl HO1.out (Kd.C_below HR0.out HB1.out) (fun _ _ h => h) (fun _ h => h.elim) (fun _ _ => trivial) HB1.out (below_size HB1.out) (by have := LM.out; simp only [List.length_nil]; omega) ?_; intro v2 w2 ho hb hg hat; clear hg hat; have HO2 := Aside0.mk ho; have HB2 := Aside0.mk hb; clear ho hb))
      go_ret
      exact ⟨v2, rfl, HO2.out, HB2.out⟩
  · rw [if_neg hl] at h
    exact absurd h (by simp)


end Go.Proofs.Ytacjlaiddnfpdaa.LB
