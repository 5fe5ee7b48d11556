-- WRITTEN FOR THIS CLAIM by wip/tools/mp.py, a program of this project that drives the kit's print; the functions that the print does not take are this project's own texts.
import Derived.Test.YtdpodjgggicaoaaSSx0q
import Derived.Test.YtdpodjgggicaoaaSSx5q
import Derived.Test.YtdpodjgggicaoaaSSx11q
namespace Go.Proofs.Ytdpodjgggicaoaa.SS
open Go.RowKit Go.Proofs.YtdpodjgggicaoaaW.PrintWords Go.Proofs.YtdpodjgggicaoaaW.PrintLast Go.Proofs.YtdpodjgggicaoaaW.PrintMore
attribute [local go_sem] max2_int min2_int max_two min_two max_three min_three max_four min_four   -- for this text's walks alone
set_option linter.unusedVariables false
set_option linter.unusedSimpArgs false
def merkhetlaw06_Same.l0 : Nat → List (List Int) → List ByteArray → Int → Int → Option (Bool)
  | 0, _, _, _, _ => none
  | k + 1, x0, x1, x12, x13 => if x13 < x12 then (if 0 ≤ x13 then (if x13 < (x0.length : Int) then (if x13 < (x1.length : Int) then (if (strOfNums (rd_L1 x0 x13)).toList = (rdOf ByteArray.empty x1 x13).toList then (merkhetlaw06_Same.l0 k x0 x1 x12 (wrap64 (x13 + 1))) else (some false)) else (none)) else (none)) else (none)) else (some true)
def merkhetlaw06_Same.f (k : Nat) (l0 : List (List Int)) (l1 : List ByteArray) : Option (Bool) := if (l0.length : Int) = (l1.length : Int) then (merkhetlaw06_Same.l0 k l0 l1 (l0.length : Int) 0) else (some false)
theorem merkhetlaw06_Same.mono_l : ∀ k, (∀ y0 y1 y2 y3, LeO (merkhetlaw06_Same.l0 k y0 y1 y2 y3) (merkhetlaw06_Same.l0 (k + 1) y0 y1 y2 y3))
  | 0 => fun _ _ _ _ r h => by simp [merkhetlaw06_Same.l0] at h
  | k + 1 => by
    have ih0 := merkhetlaw06_Same.mono_l k
    · intro y0 y1 y2 y3
      unfold merkhetlaw06_Same.l0
      repeat' first
      | (with_reducible exact ih0 _ _ _ _)
      | (with_reducible exact LeO.refl _)
      | (with_reducible exact LeO.none _)
      | (with_reducible refine LeO.ite ?_ ?_)
      | (with_reducible refine LeO.bind ?_ (fun _ => ?_))
      | exact ih0 _ _ _ _
      | exact LeO.none _
      | refine LeO.ite ?_ ?_
      | refine LeO.bind ?_ (fun _ => ?_)
theorem merkhetlaw06_Same.mono : ∀ a0 a1 k, LeO (merkhetlaw06_Same.f k a0 a1) (merkhetlaw06_Same.f (k + 1) a0 a1) := by
  intro a0 a1 k
  have ih0 := merkhetlaw06_Same.mono_l k
  unfold merkhetlaw06_Same.f
  repeat' first
      | (with_reducible exact ih0 _ _ _ _)
      | (with_reducible exact LeO.refl _)
      | (with_reducible exact LeO.none _)
      | (with_reducible refine LeO.ite ?_ ?_)
      | (with_reducible refine LeO.bind ?_ (fun _ => ?_))
      | exact ih0 _ _ _ _
      | exact LeO.none _
      | refine LeO.ite ?_ ?_
      | refine LeO.bind ?_ (fun _ => ?_)
set_option maxHeartbeats 8000000 in
set_option maxRecDepth 100000 in
theorem merkhetlaw06_Same.calls (k : Nat) (A0 : Option Addr) (c0 : Nat) (l0 : List (List Int)) (A1 : Option Addr) (c1 : Nat) (l1 : List ByteArray) (r : Bool) (w : World) (hr0 : Kd.C (Kd.slice 5 (Kd.int .u8)) w A0 l0.length l0) (hc0 : l0.length ≤ c0) (hr1 : Kd.C Kd.string w A1 l1.length l1) (hc1 : l1.length ≤ c1) (h : merkhetlaw06_Same.f k l0 l1 = some r) :
    Calls Try.prog 26 #[.slice A0 l0.length c0, .slice A1 l1.length c1] w fun e w' => e = .returned (.bool r) ∧ Drawn0 w w' := by
  have HR0 := Aside0.mk hr0
  have HC0 := Aside0.mk hc0
  clear hr0 hc0
  have HR1 := Aside0.mk hr1
  have HC1 := Aside0.mk hc1
  clear hr1 hc1
  have H : (if (l0.length : Int) = (l1.length : Int) then (merkhetlaw06_Same.l0 k l0 l1 (l0.length : Int) 0) else (some false)) = some r := h
  clear h
  by_cases c3 : (l0.length : Int) = (l1.length : Int)
  · rw [if_pos c3] at H
    have c3b0 : ((l0.length : Int) == (l1.length : Int)) = true := beq_iff_eq.mpr c3
    have c3b1 : ((l0.length : Int) != (l1.length : Int)) = false := bne_eq_false_iff_eq.mpr c3
    have c3b2 : (l0.length == l1.length) = true := by first | simpa using c3 | (simp at c3 ⊢; omega)
    clear c3
    have H' := Aside0.mk H
    clear H
    go_enter Try.func26, Try.ntmps26
    go_wp2
    repeat (go_quiet (fail); try go_wp2)
    go_loopg [13] k (fun kq v13 w' => ∃ (x13_1 : Int), v13 = .int .i64 x13_1 ∧ Aside0 (merkhetlaw06_Same.l0 kq l0 l1 (l0.length : Int) x13_1 = some r) ∧ Aside0 (kq ≤ k) ∧ Drawn0 w w')
    case atStart => exact ⟨(0), (by first | rfl | (simp; done) | (simp [*]; done)), H', ⟨Nat.le_refl _⟩, by repeat (first | exact Drawn0.refl _ | apply Drawn0.step)⟩
    case round =>
      clear H'
      try clear c1
      try clear c2
      try clear p2
      try clear c3
      try clear c3b0
      try clear c3b1
      try clear c3b2
      obtain ⟨x13_1, rfl, HA, HK1, ⟨m1, rfl⟩⟩ := hrel
      cases gk with
      | zero => exact absurd HA.out (by simp [merkhetlaw06_Same.l0])
      | succ k1 =>
        have H := HA.out
        clear HA
        simp only [merkhetlaw06_Same.l0] at H
        by_cases c4 : x13_1 < (l0.length : Int)
        · rw [if_pos c4] at H
          have c4b0 : decide (x13_1 < (l0.length : Int)) = true := decide_eq_true c4
          clear c4
          by_cases c5 : 0 ≤ x13_1
          · rw [if_pos c5] at H
            have c5b0 : decide (0 ≤ x13_1) = true := decide_eq_true c5
            clear c5
            by_cases c6 : x13_1 < (l0.length : Int)
            · rw [if_pos c6] at H
              have c6b0 : decide (x13_1 < (l0.length : Int)) = true := decide_eq_true c6
              clear c6
              by_cases c7 : x13_1 < (l1.length : Int)
              · rw [if_pos c7] at H
                have c7b0 : decide (x13_1 < (l1.length : Int)) = true := decide_eq_true c7
                clear c7
                by_cases c8 : (strOfNums (rd_L1 l0 x13_1)).toList = (rdOf ByteArray.empty l1 x13_1).toList
                · rw [if_pos c8] at H
                  have c8b0 : ((strOfNums (rd_L1 l0 x13_1)).toList == (rdOf ByteArray.empty l1 x13_1).toList) = true := beq_iff_eq.mpr c8
                  have c8b1 : ((strOfNums (rd_L1 l0 x13_1)).toList != (rdOf ByteArray.empty l1 x13_1).toList) = false := bne_eq_false_iff_eq.mpr c8
                  clear c8
                  have H' := Aside0.mk H
                  clear H
                  have p325 : 0 ≤ (x13_1 : Int) := of_decide_eq_true (by first | (with_reducible assumption) | assumption)
                  have q325 : x13_1 < (l0.length : Int) := of_decide_eq_true (by first | (with_reducible assumption) | assumption)
                  obtain ⟨ad325, A325_0, c325_0, e325, hx325_0, hl325_0, hi325_0⟩ := at_L1 HR0.out x13_1 p325 q325
                  cases e325
                  have HR325_0 := Aside0.mk hi325_0
                  have HC325_0 := Aside0.mk hl325_0
                  clear hi325_0 hl325_0
                  replace p325 := eq_true p325
                  replace q325 := eq_true q325
                  have hcv9 := Kd.C_string (P := Try.prog) (A := A325_0) (c := c325_0) Try.underlying25 Try.underlying5 Try.underlying9 HR325_0.out
                  have hcw9 := fun n_ : Nat => Kd.C_string (P := Try.prog) (A := A325_0) (c := c325_0) Try.underlying25 Try.underlying5 Try.underlying9 (Kd.C_drewN HR325_0.out n_)
                  have p326 : 0 ≤ (x13_1 : Int) := of_decide_eq_true (by first | (with_reducible assumption) | assumption)
                  have q326 : x13_1 < (l1.length : Int) := of_decide_eq_true (by first | (with_reducible assumption) | assumption)
                  obtain ⟨ad326, e326, hx326_0⟩ := Kd.at_string HR1.out x13_1 p326 q326
                  cases e326
                  replace p326 := eq_true p326
                  replace q326 := eq_true q326
                  go_wp2
                  repeat (go_quiet (fail); try go_wp2)
                  go_roundg k1
                  case measure => have := HK1.out; omega
                  case rel => exact ⟨(wrap64 (x13_1 + 1)), (by first | rfl | (simp; done) | (simp [*]; done)), H', ⟨by have := HK1.out; omega⟩, by repeat (first | exact Drawn0.refl _ | apply Drawn0.step)⟩
                · rw [if_neg c8] at H
                  have c8b0 : ((strOfNums (rd_L1 l0 x13_1)).toList == (rdOf ByteArray.empty l1 x13_1).toList) = false := beq_eq_false_iff_ne.mpr c8
                  have c8b1 : ((strOfNums (rd_L1 l0 x13_1)).toList != (rdOf ByteArray.empty l1 x13_1).toList) = true := bne_iff_ne.mpr c8
                  obtain rfl := Option.some.inj H
                  have p325 : 0 ≤ (x13_1 : Int) := of_decide_eq_true (by first | (with_reducible assumption) | assumption)
                  have q325 : x13_1 < (l0.length : Int) := of_decide_eq_true (by first | (with_reducible assumption) | assumption)
                  obtain ⟨ad325, A325_0, c325_0, e325, hx325_0, hl325_0, hi325_0⟩ := at_L1 HR0.out x13_1 p325 q325
                  cases e325
                  have HR325_0 := Aside0.mk hi325_0
                  have HC325_0 := Aside0.mk hl325_0
                  clear hi325_0 hl325_0
                  replace p325 := eq_true p325
                  replace q325 := eq_true q325
                  have hcv10 := Kd.C_string (P := Try.prog) (A := A325_0) (c := c325_0) Try.underlying25 Try.underlying5 Try.underlying9 HR325_0.out
                  have hcw10 := fun n_ : Nat => Kd.C_string (P := Try.prog) (A := A325_0) (c := c325_0) Try.underlying25 Try.underlying5 Try.underlying9 (Kd.C_drewN HR325_0.out n_)
                  have p326 : 0 ≤ (x13_1 : Int) := of_decide_eq_true (by first | (with_reducible assumption) | assumption)
                  have q326 : x13_1 < (l1.length : Int) := of_decide_eq_true (by first | (with_reducible assumption) | assumption)
                  obtain ⟨ad326, e326, hx326_0⟩ := Kd.at_string HR1.out x13_1 p326 q326
                  cases e326
                  replace p326 := eq_true p326
                  replace q326 := eq_true q326
                  go_wp2
                  repeat (go_quiet (fail); try go_wp2)
                  go_ret
                  exact ⟨by first | rfl | (simp; done) | (simp [*]; done), by repeat (first | exact Drawn0.refl _ | apply Drawn0.step)⟩
              · rw [if_neg c7] at H
                exact absurd H (by simp)
            · rw [if_neg c6] at H
              exact absurd H (by simp)
          · rw [if_neg c5] at H
            exact absurd H (by simp)
        · rw [if_neg c4] at H
          have c4b0 : decide (x13_1 < (l0.length : Int)) = false := decide_eq_false c4
          clear c4
          obtain rfl := Option.some.inj H
          go_wp2
          repeat (go_quiet (fail); try go_wp2)
          go_ret
          exact ⟨by first | rfl | (simp; done) | (simp [*]; done), by repeat (first | exact Drawn0.refl _ | apply Drawn0.step)⟩
  · rw [if_neg c3] at H
    have c3b0 : ((l0.length : Int) == (l1.length : Int)) = false := beq_eq_false_iff_ne.mpr c3
    have c3b1 : ((l0.length : Int) != (l1.length : Int)) = true := bne_iff_ne.mpr c3
    have c3b2 : (l0.length == l1.length) = false := by first | simpa using c3 | (simp at c3 ⊢; omega)
    obtain rfl := Option.some.inj H
    go_enter Try.func26, Try.ntmps26
    go_wp2
    repeat (go_quiet (fail); try go_wp2)
    go_ret
    exact ⟨by first | rfl | (simp; done) | (simp [*]; done), by repeat (first | exact Drawn0.refl _ | apply Drawn0.step)⟩
def merkhetlaw07_same.f (k : Nat) (a0_0 : Int) (a0_1 : Int) (l0_2 : List (List Int)) (a0_3 : Int) (a0_4 : Bool) (a1_0 : Int) (a1_1 : Int) (l1_2 : List ByteArray) (a1_3 : Int) : Option (Bool) := if a0_0 = a1_0 then (if a0_1 = a1_1 then (if a0_3 = a1_3 then ((merkhetlaw06_Same.f k l0_2 l1_2).bind fun t329 => (if t329 = true then (if a1_1 > 0 then (some (a0_4 == ((l1_2.length : Int) == a1_1))) else (some (a0_4 == false))) else (some false))) else (some false)) else (some false)) else (some false)
theorem merkhetlaw07_same.mono : ∀ a0 a1 a2 a3 a4 a5 a6 a7 a8 k, LeO (merkhetlaw07_same.f k a0 a1 a2 a3 a4 a5 a6 a7 a8) (merkhetlaw07_same.f (k + 1) a0 a1 a2 a3 a4 a5 a6 a7 a8) := by
  intro a0 a1 a2 a3 a4 a5 a6 a7 a8 k
  unfold merkhetlaw07_same.f
  repeat' first
      | (with_reducible exact merkhetlaw06_Same.mono _ _ _)
      | (with_reducible exact LeO.refl _)
      | (with_reducible exact LeO.none _)
      | (with_reducible refine LeO.ite ?_ ?_)
      | (with_reducible refine LeO.bind ?_ (fun _ => ?_))
      | exact merkhetlaw06_Same.mono _ _ _
      | exact LeO.none _
      | refine LeO.ite ?_ ?_
      | refine LeO.bind ?_ (fun _ => ?_)
set_option maxHeartbeats 8000000 in
set_option maxRecDepth 100000 in
theorem merkhetlaw07_same.calls (k : Nat) (a0_0 : Int) (a0_1 : Int) (A0_2 : Option Addr) (c0_2 : Nat) (l0_2 : List (List Int)) (a0_3 : Int) (a0_4 : Bool) (a1_0 : Int) (a1_1 : Int) (A1_2 : Option Addr) (c1_2 : Nat) (l1_2 : List ByteArray) (a1_3 : Int) (r : Bool) (w : World) (hr0_2 : Kd.C (Kd.slice 5 (Kd.int .u8)) w A0_2 l0_2.length l0_2) (hc0_2 : l0_2.length ≤ c0_2) (hr1_2 : Kd.C Kd.string w A1_2 l1_2.length l1_2) (hc1_2 : l1_2.length ≤ c1_2) (h : merkhetlaw07_same.f k a0_0 a0_1 l0_2 a0_3 a0_4 a1_0 a1_1 l1_2 a1_3 = some r) :
    Calls Try.prog 36 #[.agg #[.int .u32 a0_0, .int .i64 a0_1, .slice A0_2 l0_2.length c0_2, .int .i64 a0_3, .bool a0_4], .agg #[.int .u32 a1_0, .int .i64 a1_1, .slice A1_2 l1_2.length c1_2, .int .i64 a1_3]] w fun e w' => e = .returned (.bool r) ∧ Below w.heap.size w w' := by
  have hu64 := Try.underlying64
  have hu69 := Try.underlying69
  have HR0_2 := Aside0.mk hr0_2
  have HC0_2 := Aside0.mk hc0_2
  clear hr0_2 hc0_2
  have HR1_2 := Aside0.mk hr1_2
  have HC1_2 := Aside0.mk hc1_2
  clear hr1_2 hc1_2
  have HB := Aside0.mk (Below.refl w.heap.size w)
  have H : (if a0_0 = a1_0 then (if a0_1 = a1_1 then (if a0_3 = a1_3 then ((merkhetlaw06_Same.f k l0_2 l1_2).bind fun t329 => (if t329 = true then (if a1_1 > 0 then (some (a0_4 == ((l1_2.length : Int) == a1_1))) else (some (a0_4 == false))) else (some false))) else (some false)) else (some false)) else (some false)) = some r := h
  clear h
  by_cases c3 : a0_0 = a1_0
  · rw [if_pos c3] at H
    have c3b0 : (a0_0 == a1_0) = true := beq_iff_eq.mpr c3
    have c3b1 : (a0_0 != a1_0) = false := bne_eq_false_iff_eq.mpr c3
    clear c3
    by_cases c4 : a0_1 = a1_1
    · rw [if_pos c4] at H
      have c4b0 : (a0_1 == a1_1) = true := beq_iff_eq.mpr c4
      have c4b1 : (a0_1 != a1_1) = false := bne_eq_false_iff_eq.mpr c4
      clear c4
      by_cases c5 : a0_3 = a1_3
      · rw [if_pos c5] at H
        have c5b0 : (a0_3 == a1_3) = true := beq_iff_eq.mpr c5
        have c5b1 : (a0_3 != a1_3) = false := bne_eq_false_iff_eq.mpr c5
        clear c5
        replace H := Option.bind_eq_some_iff.mp H
        obtain ⟨t329, A60, H⟩ := H
        replace H : (if t329 = true then (if a1_1 > 0 then (some (a0_4 == ((l1_2.length : Int) == a1_1))) else (some (a0_4 == false))) else (some false)) = some r := H
        have A6 := Aside0.mk A60
        clear A60
        by_cases c7 : t329 = true
        · subst c7
          have H1 : (if a1_1 > 0 then (some (a0_4 == ((l1_2.length : Int) == a1_1))) else (some (a0_4 == false))) = some r := by rw [if_pos rfl] at H; exact H
          clear H
          have H := H1
          clear H1
          by_cases c8 : a1_1 > 0
          · rw [if_pos c8] at H
            have c8b0 : decide (0 < a1_1) = true := decide_eq_true c8
            clear c8
            obtain rfl := Option.some.inj H
            go_enter Try.func36, Try.ntmps36
            go_wp2_with (first | ((with_reducible refine gate_dst (N := 2) rfl ?_); (try (refine gate_guard (by rfl) ?_; dsimp only)); refine box_event ?hg (N := 2) ?hd (cs := #[.int .u32 a0_0, .int .i64 a0_1, .slice A0_2 l0_2.length c0_2, .int .i64 a0_3, .bool a0_4]) (t := 64) ?hr ?_; (case hd => rfl); (case hg => rfl); (case hr => first | (go_simp; done) | (go_simp; rfl)); intro gb327 hg w9 hbox hb; have n0_ := Aside0.mk (below_step (by repeat (first | (with_reducible first | exact HB.out | apply below_alloc | apply pw_below_drewN | apply below_drew1) | exact HB.out)) hb); have n1_ := Aside0.mk (hbox); have n2_ := Aside0.mk ((by rw [hg]; exact (below_size (by repeat (first | (with_reducible first | exact HB.out | apply below_alloc | apply pw_below_drewN | apply below_drew1) | exact HB.out))) : w.heap.size ≤ gb327)); have n3_ := Aside0.mk ((by rw [hg]; exact (below_size (by repeat (first | (with_reducible first | exact HB.out | apply below_alloc | apply pw_below_drewN | apply below_drew1) | exact HB.out))) : w.heap.size ≤ gb327)); clear HB; have HB := n0_; have BK327 := n1_; have GW327 := n2_; have GE327 := n3_; clear n0_ n1_ n2_ n3_; clear hb hbox hg) | ((with_reducible refine gate_dst (N := 3) rfl ?_); (try (refine gate_guard (by rfl) ?_; dsimp only)); refine box_event ?hg (N := 3) ?hd (cs := #[.int .u32 a1_0, .int .i64 a1_1, .slice A1_2 l1_2.length c1_2, .int .i64 a1_3]) (t := 69) ?hr ?_; (case hd => rfl); (case hg => rfl); (case hr => first | (go_simp; done) | (go_simp; rfl)); intro gb328 hg w10 hbox hb; have n0_ := Aside0.mk (blk_below (g := gb327) (o := .cells #[.int .u32 a0_0, .int .i64 a0_1, .slice A0_2 l0_2.length c0_2, .int .i64 a0_3, .bool a0_4] 64 (0, 0)) (by (with_reducible repeat (first | refine blk_drewN ?_ _ | refine blk_drew ?_ | refine blk_alloc ?_ _)); exact BK327.out) hb); have n1_ := Aside0.mk (below_step (by repeat (first | (with_reducible first | exact HB.out | apply below_alloc | apply pw_below_drewN | apply below_drew1 | refine below_set ?_ GE327.out) | exact HB.out)) hb); have n2_ := Aside0.mk (hbox); have n3_ := Aside0.mk ((by rw [hg]; exact (below_size (by repeat (first | (with_reducible first | exact HB.out | apply below_alloc | apply pw_below_drewN | apply below_drew1 | refine below_set ?_ GE327.out) | exact HB.out))) : w.heap.size ≤ gb328)); have n4_ := Aside0.mk ((by rw [hg]; exact (below_size (by repeat (first | (with_reducible first | exact HB.out | apply below_alloc | apply pw_below_drewN | apply below_drew1 | refine below_set ?_ GE327.out) | exact HB.out))) : w.heap.size ≤ gb328)); have n5_ := Aside0.mk ((by rw [hg]; exact Nat.ne_of_lt (blk_lt (g := gb327) (o := .cells #[.int .u32 a0_0, .int .i64 a0_1, .slice A0_2 l0_2.length c0_2, .int .i64 a0_3, .bool a0_4] 64 (0, 0)) (by (with_reducible repeat (first | refine blk_drewN ?_ _ | refine blk_drew ?_ | refine blk_alloc ?_ _)); exact BK327.out)) : gb327 ≠ gb328)); have n6_ := Aside0.mk ((by rw [hg]; exact Nat.ne_of_gt (blk_lt (g := gb327) (o := .cells #[.int .u32 a0_0, .int .i64 a0_1, .slice A0_2 l0_2.length c0_2, .int .i64 a0_3, .bool a0_4] 64 (0, 0)) (by (with_reducible repeat (first | refine blk_drewN ?_ _ | refine blk_drew ?_ | refine blk_alloc ?_ _)); exact BK327.out)) : gb328 ≠ gb327)); clear BK327; clear HB; have BK327 := n0_; have HB := n1_; have BK328 := n2_; have GW328 := n3_; have GE328 := n4_; have NB327_328 := n5_; have NB328_327 := n6_; clear n0_ n1_ n2_ n3_ n4_ n5_ n6_; clear hb hbox hg; have hnb11 := NB327_328.out; have hnc11 := NB328_327.out; have hcz12_0 : w10.cell? ⟨gb327, 0, none⟩ = some (.int .u32 a0_0) := (blk_cell BK327.out 0).trans rfl; have hcz12_1 : w10.cell? ⟨gb327, 1, none⟩ = some (.int .i64 a0_1) := (blk_cell BK327.out 1).trans rfl; have hcz12_2 : w10.cell? ⟨gb327, 2, none⟩ = some (.slice A0_2 l0_2.length c0_2) := (blk_cell BK327.out 2).trans rfl; have hcz12_3 : w10.cell? ⟨gb327, 3, none⟩ = some (.int .i64 a0_3) := (blk_cell BK327.out 3).trans rfl; have hcz12_4 : w10.cell? ⟨gb327, 4, none⟩ = some (.bool a0_4) := (blk_cell BK327.out 4).trans rfl; have hfz12_0 := blk_frozen BK327.out 0; have hfz12_1 := blk_frozen BK327.out 1; have hfz12_2 := blk_frozen BK327.out 2; have hfz12_3 := blk_frozen BK327.out 3; have hfz12_4 := blk_frozen BK327.out 4; have hcz13_0 : w10.cell? ⟨gb328, 0, none⟩ = some (.int .u32 a1_0) := (blk_cell BK328.out 0).trans rfl; have hcz13_1 : w10.cell? ⟨gb328, 1, none⟩ = some (.int .i64 a1_1) := (blk_cell BK328.out 1).trans rfl; have hcz13_2 : w10.cell? ⟨gb328, 2, none⟩ = some (.slice A1_2 l1_2.length c1_2) := (blk_cell BK328.out 2).trans rfl; have hcz13_3 : w10.cell? ⟨gb328, 3, none⟩ = some (.int .i64 a1_3) := (blk_cell BK328.out 3).trans rfl; have hfz13_0 := blk_frozen BK328.out 0; have hfz13_1 := blk_frozen BK328.out 1; have hfz13_2 := blk_frozen BK328.out 2; have hfz13_3 := blk_frozen BK328.out 3) | (go_at_call 26; (with_reducible refine (merkhetlaw06_Same.calls k _ _ l0_2 _ _ l1_2 true _ ?side1 ?side2 ?side3 ?side4 A6.out).mono ?_); (case side1 => repeat (first | exact (Kd.C_below HR0_2.out HB.out) | (with_reducible refine Kd.C_alloc ?_ _) | (with_reducible refine Kd.C_drewN ?_ _) | (with_reducible refine Kd.C_drew ?_))); (case side2 => exact HC0_2.out); (case side3 => repeat (first | exact (Kd.C_below HR1_2.out HB.out) | (with_reducible refine Kd.C_alloc ?_ _) | (with_reducible refine Kd.C_drewN ?_ _) | (with_reducible refine Kd.C_drew ?_))); (case side4 => exact HC1_2.out); rintro e w' ⟨rfl, ⟨nd, rfl⟩⟩))
            go_ret
            exact ⟨by first | rfl | (simp [errW_none, errW_some] <;> rfl) | (simp [*, errW_none, errW_some] <;> rfl), by repeat (first | (with_reducible first | exact HB.out | apply below_alloc | apply pw_below_drewN | apply below_drew1 | refine below_set ?_ GE327.out | refine below_set ?_ GE328.out) | exact HB.out)⟩
          · rw [if_neg c8] at H
            have c8b0 : decide (0 < a1_1) = false := decide_eq_false c8
            clear c8
            obtain rfl := Option.some.inj H
            go_enter Try.func36, Try.ntmps36
            go_wp2_with (first | ((with_reducible refine gate_dst (N := 2) rfl ?_); (try (refine gate_guard (by rfl) ?_; dsimp only)); refine box_event ?hg (N := 2) ?hd (cs := #[.int .u32 a0_0, .int .i64 a0_1, .slice A0_2 l0_2.length c0_2, .int .i64 a0_3, .bool a0_4]) (t := 64) ?hr ?_; (case hd => rfl); (case hg => rfl); (case hr => first | (go_simp; done) | (go_simp; rfl)); intro gb327 hg w14 hbox hb; have n0_ := Aside0.mk (below_step (by repeat (first | (with_reducible first | exact HB.out | apply below_alloc | apply pw_below_drewN | apply below_drew1) | exact HB.out)) hb); have n1_ := Aside0.mk (hbox); have n2_ := Aside0.mk ((by rw [hg]; exact (below_size (by repeat (first | (with_reducible first | exact HB.out | apply below_alloc | apply pw_below_drewN | apply below_drew1) | exact HB.out))) : w.heap.size ≤ gb327)); have n3_ := Aside0.mk ((by rw [hg]; exact (below_size (by repeat (first | (with_reducible first | exact HB.out | apply below_alloc | apply pw_below_drewN | apply below_drew1) | exact HB.out))) : w.heap.size ≤ gb327)); clear HB; have HB := n0_; have BK327 := n1_; have GW327 := n2_; have GE327 := n3_; clear n0_ n1_ n2_ n3_; clear hb hbox hg) | ((with_reducible refine gate_dst (N := 3) rfl ?_); (try (refine gate_guard (by rfl) ?_; dsimp only)); refine box_event ?hg (N := 3) ?hd (cs := #[.int .u32 a1_0, .int .i64 a1_1, .slice A1_2 l1_2.length c1_2, .int .i64 a1_3]) (t := 69) ?hr ?_; (case hd => rfl); (case hg => rfl); (case hr => first | (go_simp; done) | (go_simp; rfl)); intro gb328 hg w15 hbox hb; have n0_ := Aside0.mk (blk_below (g := gb327) (o := .cells #[.int .u32 a0_0, .int .i64 a0_1, .slice A0_2 l0_2.length c0_2, .int .i64 a0_3, .bool a0_4] 64 (0, 0)) (by (with_reducible repeat (first | refine blk_drewN ?_ _ | refine blk_drew ?_ | refine blk_alloc ?_ _)); exact BK327.out) hb); have n1_ := Aside0.mk (below_step (by repeat (first | (with_reducible first | exact HB.out | apply below_alloc | apply pw_below_drewN | apply below_drew1 | refine below_set ?_ GE327.out) | exact HB.out)) hb); have n2_ := Aside0.mk (hbox); have n3_ := Aside0.mk ((by rw [hg]; exact (below_size (by repeat (first | (with_reducible first | exact HB.out | apply below_alloc | apply pw_below_drewN | apply below_drew1 | refine below_set ?_ GE327.out) | exact HB.out))) : w.heap.size ≤ gb328)); have n4_ := Aside0.mk ((by rw [hg]; exact (below_size (by repeat (first | (with_reducible first | exact HB.out | apply below_alloc | apply pw_below_drewN | apply below_drew1 | refine below_set ?_ GE327.out) | exact HB.out))) : w.heap.size ≤ gb328)); have n5_ := Aside0.mk ((by rw [hg]; exact Nat.ne_of_lt (blk_lt (g := gb327) (o := .cells #[.int .u32 a0_0, .int .i64 a0_1, .slice A0_2 l0_2.length c0_2, .int .i64 a0_3, .bool a0_4] 64 (0, 0)) (by (with_reducible repeat (first | refine blk_drewN ?_ _ | refine blk_drew ?_ | refine blk_alloc ?_ _)); exact BK327.out)) : gb327 ≠ gb328)); have n6_ := Aside0.mk ((by rw [hg]; exact Nat.ne_of_gt (blk_lt (g := gb327) (o := .cells #[.int .u32 a0_0, .int .i64 a0_1, .slice A0_2 l0_2.length c0_2, .int .i64 a0_3, .bool a0_4] 64 (0, 0)) (by (with_reducible repeat (first | refine blk_drewN ?_ _ | refine blk_drew ?_ | refine blk_alloc ?_ _)); exact BK327.out)) : gb328 ≠ gb327)); clear BK327; clear HB; have BK327 := n0_; have HB := n1_; have BK328 := n2_; have GW328 := n3_; have GE328 := n4_; have NB327_328 := n5_; have NB328_327 := n6_; clear n0_ n1_ n2_ n3_ n4_ n5_ n6_; clear hb hbox hg; have hnb16 := NB327_328.out; have hnc16 := NB328_327.out; have hcz17_0 : w15.cell? ⟨gb327, 0, none⟩ = some (.int .u32 a0_0) := (blk_cell BK327.out 0).trans rfl; have hcz17_1 : w15.cell? ⟨gb327, 1, none⟩ = some (.int .i64 a0_1) := (blk_cell BK327.out 1).trans rfl; have hcz17_2 : w15.cell? ⟨gb327, 2, none⟩ = some (.slice A0_2 l0_2.length c0_2) := (blk_cell BK327.out 2).trans rfl; have hcz17_3 : w15.cell? ⟨gb327, 3, none⟩ = some (.int .i64 a0_3) := (blk_cell BK327.out 3).trans rfl; have hcz17_4 : w15.cell? ⟨gb327, 4, none⟩ = some (.bool a0_4) := (blk_cell BK327.out 4).trans rfl; have hfz17_0 := blk_frozen BK327.out 0; have hfz17_1 := blk_frozen BK327.out 1; have hfz17_2 := blk_frozen BK327.out 2; have hfz17_3 := blk_frozen BK327.out 3; have hfz17_4 := blk_frozen BK327.out 4; have hcz18_0 : w15.cell? ⟨gb328, 0, none⟩ = some (.int .u32 a1_0) := (blk_cell BK328.out 0).trans rfl; have hcz18_1 : w15.cell? ⟨gb328, 1, none⟩ = some (.int .i64 a1_1) := (blk_cell BK328.out 1).trans rfl; have hcz18_2 : w15.cell? ⟨gb328, 2, none⟩ = some (.slice A1_2 l1_2.length c1_2) := (blk_cell BK328.out 2).trans rfl; have hcz18_3 : w15.cell? ⟨gb328, 3, none⟩ = some (.int .i64 a1_3) := (blk_cell BK328.out 3).trans rfl; have hfz18_0 := blk_frozen BK328.out 0; have hfz18_1 := blk_frozen BK328.out 1; have hfz18_2 := blk_frozen BK328.out 2; have hfz18_3 := blk_frozen BK328.out 3) | (go_at_call 26; (with_reducible refine (merkhetlaw06_Same.calls k _ _ l0_2 _ _ l1_2 true _ ?side1 ?side2 ?side3 ?side4 A6.out).mono ?_); (case side1 => repeat (first | exact (Kd.C_below HR0_2.out HB.out) | (with_reducible refine Kd.C_alloc ?_ _) | (with_reducible refine Kd.C_drewN ?_ _) | (with_reducible refine Kd.C_drew ?_))); (case side2 => exact HC0_2.out); (case side3 => repeat (first | exact (Kd.C_below HR1_2.out HB.out) | (with_reducible refine Kd.C_alloc ?_ _) | (with_reducible refine Kd.C_drewN ?_ _) | (with_reducible refine Kd.C_drew ?_))); (case side4 => exact HC1_2.out); rintro e w' ⟨rfl, ⟨nd, rfl⟩⟩))
            go_ret
            exact ⟨by first | rfl | (simp [errW_none, errW_some] <;> rfl) | (simp [*, errW_none, errW_some] <;> rfl), by repeat (first | (with_reducible first | exact HB.out | apply below_alloc | apply pw_below_drewN | apply below_drew1 | refine below_set ?_ GE327.out | refine below_set ?_ GE328.out) | exact HB.out)⟩
        · replace c7 := Bool.eq_false_iff.mpr c7
          subst c7
          have H1 : (some false) = some r := by rw [if_neg (show ¬ (false = true) by decide)] at H; exact H
          clear H
          have H := H1
          clear H1
          obtain rfl := Option.some.inj H
          go_enter Try.func36, Try.ntmps36
          go_wp2_with (first | ((with_reducible refine gate_dst (N := 2) rfl ?_); (try (refine gate_guard (by rfl) ?_; dsimp only)); refine box_event ?hg (N := 2) ?hd (cs := #[.int .u32 a0_0, .int .i64 a0_1, .slice A0_2 l0_2.length c0_2, .int .i64 a0_3, .bool a0_4]) (t := 64) ?hr ?_; (case hd => rfl); (case hg => rfl); (case hr => first | (go_simp; done) | (go_simp; rfl)); intro gb327 hg w19 hbox hb; have n0_ := Aside0.mk (below_step (by repeat (first | (with_reducible first | exact HB.out | apply below_alloc | apply pw_below_drewN | apply below_drew1) | exact HB.out)) hb); have n1_ := Aside0.mk (hbox); have n2_ := Aside0.mk ((by rw [hg]; exact (below_size (by repeat (first | (with_reducible first | exact HB.out | apply below_alloc | apply pw_below_drewN | apply below_drew1) | exact HB.out))) : w.heap.size ≤ gb327)); have n3_ := Aside0.mk ((by rw [hg]; exact (below_size (by repeat (first | (with_reducible first | exact HB.out | apply below_alloc | apply pw_below_drewN | apply below_drew1) | exact HB.out))) : w.heap.size ≤ gb327)); clear HB; have HB := n0_; have BK327 := n1_; have GW327 := n2_; have GE327 := n3_; clear n0_ n1_ n2_ n3_; clear hb hbox hg) | ((with_reducible refine gate_dst (N := 3) rfl ?_); (try (refine gate_guard (by rfl) ?_; dsimp only)); refine box_event ?hg (N := 3) ?hd (cs := #[.int .u32 a1_0, .int .i64 a1_1, .slice A1_2 l1_2.length c1_2, .int .i64 a1_3]) (t := 69) ?hr ?_; (case hd => rfl); (case hg => rfl); (case hr => first | (go_simp; done) | (go_simp; rfl)); intro gb328 hg w20 hbox hb; have n0_ := Aside0.mk (blk_below (g := gb327) (o := .cells #[.int .u32 a0_0, .int .i64 a0_1, .slice A0_2 l0_2.length c0_2, .int .i64 a0_3, .bool a0_4] 64 (0, 0)) (by (with_reducible repeat (first | refine blk_drewN ?_ _ | refine blk_drew ?_ | refine blk_alloc ?_ _)); exact BK327.out) hb); have n1_ := Aside0.mk (below_step (by repeat (first | (with_reducible first | exact HB.out | apply below_alloc | apply pw_below_drewN | apply below_drew1 | refine below_set ?_ GE327.out) | exact HB.out)) hb); have n2_ := Aside0.mk (hbox); have n3_ := Aside0.mk ((by rw [hg]; exact (below_size (by repeat (first | (with_reducible first | exact HB.out | apply below_alloc | apply pw_below_drewN | apply below_drew1 | refine below_set ?_ GE327.out) | exact HB.out))) : w.heap.size ≤ gb328)); have n4_ := Aside0.mk ((by rw [hg]; exact (below_size (by repeat (first | (with_reducible first | exact HB.out | apply below_alloc | apply pw_below_drewN | apply below_drew1 | refine below_set ?_ GE327.out) | exact HB.out))) : w.heap.size ≤ gb328)); have n5_ := Aside0.mk ((by rw [hg]; exact Nat.ne_of_lt (blk_lt (g := gb327) (o := .cells #[.int .u32 a0_0, .int .i64 a0_1, .slice A0_2 l0_2.length c0_2, .int .i64 a0_3, .bool a0_4] 64 (0, 0)) (by (with_reducible repeat (first | refine blk_drewN ?_ _ | refine blk_drew ?_ | refine blk_alloc ?_ _)); exact BK327.out)) : gb327 ≠ gb328)); have n6_ := Aside0.mk ((by rw [hg]; exact Nat.ne_of_gt (blk_lt (g := gb327) (o := .cells #[.int .u32 a0_0, .int .i64 a0_1, .slice A0_2 l0_2.length c0_2, .int .i64 a0_3, .bool a0_4] 64 (0, 0)) (by (with_reducible repeat (first | refine blk_drewN ?_ _ | refine blk_drew ?_ | refine blk_alloc ?_ _)); exact BK327.out)) : gb328 ≠ gb327)); clear BK327; clear HB; have BK327 := n0_; have HB := n1_; have BK328 := n2_; have GW328 := n3_; have GE328 := n4_; have NB327_328 := n5_; have NB328_327 := n6_; clear n0_ n1_ n2_ n3_ n4_ n5_ n6_; clear hb hbox hg; have hnb21 := NB327_328.out; have hnc21 := NB328_327.out; have hcz22_0 : w20.cell? ⟨gb327, 0, none⟩ = some (.int .u32 a0_0) := (blk_cell BK327.out 0).trans rfl; have hcz22_1 : w20.cell? ⟨gb327, 1, none⟩ = some (.int .i64 a0_1) := (blk_cell BK327.out 1).trans rfl; have hcz22_2 : w20.cell? ⟨gb327, 2, none⟩ = some (.slice A0_2 l0_2.length c0_2) := (blk_cell BK327.out 2).trans rfl; have hcz22_3 : w20.cell? ⟨gb327, 3, none⟩ = some (.int .i64 a0_3) := (blk_cell BK327.out 3).trans rfl; have hcz22_4 : w20.cell? ⟨gb327, 4, none⟩ = some (.bool a0_4) := (blk_cell BK327.out 4).trans rfl; have hfz22_0 := blk_frozen BK327.out 0; have hfz22_1 := blk_frozen BK327.out 1; have hfz22_2 := blk_frozen BK327.out 2; have hfz22_3 := blk_frozen BK327.out 3; have hfz22_4 := blk_frozen BK327.out 4; have hcz23_0 : w20.cell? ⟨gb328, 0, none⟩ = some (.int .u32 a1_0) := (blk_cell BK328.out 0).trans rfl; have hcz23_1 : w20.cell? ⟨gb328, 1, none⟩ = some (.int .i64 a1_1) := (blk_cell BK328.out 1).trans rfl; have hcz23_2 : w20.cell? ⟨gb328, 2, none⟩ = some (.slice A1_2 l1_2.length c1_2) := (blk_cell BK328.out 2).trans rfl; have hcz23_3 : w20.cell? ⟨gb328, 3, none⟩ = some (.int .i64 a1_3) := (blk_cell BK328.out 3).trans rfl; have hfz23_0 := blk_frozen BK328.out 0; have hfz23_1 := blk_frozen BK328.out 1; have hfz23_2 := blk_frozen BK328.out 2; have hfz23_3 := blk_frozen BK328.out 3) | (go_at_call 26; (with_reducible refine (merkhetlaw06_Same.calls k _ _ l0_2 _ _ l1_2 false _ ?side1 ?side2 ?side3 ?side4 A6.out).mono ?_); (case side1 => repeat (first | exact (Kd.C_below HR0_2.out HB.out) | (with_reducible refine Kd.C_alloc ?_ _) | (with_reducible refine Kd.C_drewN ?_ _) | (with_reducible refine Kd.C_drew ?_))); (case side2 => exact HC0_2.out); (case side3 => repeat (first | exact (Kd.C_below HR1_2.out HB.out) | (with_reducible refine Kd.C_alloc ?_ _) | (with_reducible refine Kd.C_drewN ?_ _) | (with_reducible refine Kd.C_drew ?_))); (case side4 => exact HC1_2.out); rintro e w' ⟨rfl, ⟨nd, rfl⟩⟩))
          go_ret
          exact ⟨by first | rfl | (simp [errW_none, errW_some] <;> rfl) | (simp [*, errW_none, errW_some] <;> rfl), by repeat (first | (with_reducible first | exact HB.out | apply below_alloc | apply pw_below_drewN | apply below_drew1 | refine below_set ?_ GE327.out | refine below_set ?_ GE328.out) | exact HB.out)⟩
      · rw [if_neg c5] at H
        have c5b0 : (a0_3 == a1_3) = false := beq_eq_false_iff_ne.mpr c5
        have c5b1 : (a0_3 != a1_3) = true := bne_iff_ne.mpr c5
        obtain rfl := Option.some.inj H
        go_enter Try.func36, Try.ntmps36
        go_wp2_with (first | ((with_reducible refine gate_dst (N := 2) rfl ?_); (try (refine gate_guard (by rfl) ?_; dsimp only)); refine box_event ?hg (N := 2) ?hd (cs := #[.int .u32 a0_0, .int .i64 a0_1, .slice A0_2 l0_2.length c0_2, .int .i64 a0_3, .bool a0_4]) (t := 64) ?hr ?_; (case hd => rfl); (case hg => rfl); (case hr => first | (go_simp; done) | (go_simp; rfl)); intro gb327 hg w24 hbox hb; have n0_ := Aside0.mk (below_step (by repeat (first | (with_reducible first | exact HB.out | apply below_alloc | apply pw_below_drewN | apply below_drew1) | exact HB.out)) hb); have n1_ := Aside0.mk (hbox); have n2_ := Aside0.mk ((by rw [hg]; exact (below_size (by repeat (first | (with_reducible first | exact HB.out | apply below_alloc | apply pw_below_drewN | apply below_drew1) | exact HB.out))) : w.heap.size ≤ gb327)); have n3_ := Aside0.mk ((by rw [hg]; exact (below_size (by repeat (first | (with_reducible first | exact HB.out | apply below_alloc | apply pw_below_drewN | apply below_drew1) | exact HB.out))) : w.heap.size ≤ gb327)); clear HB; have HB := n0_; have BK327 := n1_; have GW327 := n2_; have GE327 := n3_; clear n0_ n1_ n2_ n3_; clear hb hbox hg) | ((with_reducible refine gate_dst (N := 3) rfl ?_); (try (refine gate_guard (by rfl) ?_; dsimp only)); refine box_event ?hg (N := 3) ?hd (cs := #[.int .u32 a1_0, .int .i64 a1_1, .slice A1_2 l1_2.length c1_2, .int .i64 a1_3]) (t := 69) ?hr ?_; (case hd => rfl); (case hg => rfl); (case hr => first | (go_simp; done) | (go_simp; rfl)); intro gb328 hg w25 hbox hb; have n0_ := Aside0.mk (blk_below (g := gb327) (o := .cells #[.int .u32 a0_0, .int .i64 a0_1, .slice A0_2 l0_2.length c0_2, .int .i64 a0_3, .bool a0_4] 64 (0, 0)) (by (with_reducible repeat (first | refine blk_drewN ?_ _ | refine blk_drew ?_ | refine blk_alloc ?_ _)); exact BK327.out) hb); have n1_ := Aside0.mk (below_step (by repeat (first | (with_reducible first | exact HB.out | apply below_alloc | apply pw_below_drewN | apply below_drew1 | refine below_set ?_ GE327.out) | exact HB.out)) hb); have n2_ := Aside0.mk (hbox); have n3_ := Aside0.mk ((by rw [hg]; exact (below_size (by repeat (first | (with_reducible first | exact HB.out | apply below_alloc | apply pw_below_drewN | apply below_drew1 | refine below_set ?_ GE327.out) | exact HB.out))) : w.heap.size ≤ gb328)); have n4_ := Aside0.mk ((by rw [hg]; exact (below_size (by repeat (first | (with_reducible first | exact HB.out | apply below_alloc | apply pw_below_drewN | apply below_drew1 | refine below_set ?_ GE327.out) | exact HB.out))) : w.heap.size ≤ gb328)); have n5_ := Aside0.mk ((by rw [hg]; exact Nat.ne_of_lt (blk_lt (g := gb327) (o := .cells #[.int .u32 a0_0, .int .i64 a0_1, .slice A0_2 l0_2.length c0_2, .int .i64 a0_3, .bool a0_4] 64 (0, 0)) (by (with_reducible repeat (first | refine blk_drewN ?_ _ | refine blk_drew ?_ | refine blk_alloc ?_ _)); exact BK327.out)) : gb327 ≠ gb328)); have n6_ := Aside0.mk ((by rw [hg]; exact Nat.ne_of_gt (blk_lt (g := gb327) (o := .cells #[.int .u32 a0_0, .int .i64 a0_1, .slice A0_2 l0_2.length c0_2, .int .i64 a0_3, .bool a0_4] 64 (0, 0)) (by (with_reducible repeat (first | refine blk_drewN ?_ _ | refine blk_drew ?_ | refine blk_alloc ?_ _)); exact BK327.out)) : gb328 ≠ gb327)); clear BK327; clear HB; have BK327 := n0_; have HB := n1_; have BK328 := n2_; have GW328 := n3_; have GE328 := n4_; have NB327_328 := n5_; have NB328_327 := n6_; clear n0_ n1_ n2_ n3_ n4_ n5_ n6_; clear hb hbox hg; have hnb26 := NB327_328.out; have hnc26 := NB328_327.out; have hcz27_0 : w25.cell? ⟨gb327, 0, none⟩ = some (.int .u32 a0_0) := (blk_cell BK327.out 0).trans rfl; have hcz27_1 : w25.cell? ⟨gb327, 1, none⟩ = some (.int .i64 a0_1) := (blk_cell BK327.out 1).trans rfl; have hcz27_2 : w25.cell? ⟨gb327, 2, none⟩ = some (.slice A0_2 l0_2.length c0_2) := (blk_cell BK327.out 2).trans rfl; have hcz27_3 : w25.cell? ⟨gb327, 3, none⟩ = some (.int .i64 a0_3) := (blk_cell BK327.out 3).trans rfl; have hcz27_4 : w25.cell? ⟨gb327, 4, none⟩ = some (.bool a0_4) := (blk_cell BK327.out 4).trans rfl; have hfz27_0 := blk_frozen BK327.out 0; have hfz27_1 := blk_frozen BK327.out 1; have hfz27_2 := blk_frozen BK327.out 2; have hfz27_3 := blk_frozen BK327.out 3; have hfz27_4 := blk_frozen BK327.out 4; have hcz28_0 : w25.cell? ⟨gb328, 0, none⟩ = some (.int .u32 a1_0) := (blk_cell BK328.out 0).trans rfl; have hcz28_1 : w25.cell? ⟨gb328, 1, none⟩ = some (.int .i64 a1_1) := (blk_cell BK328.out 1).trans rfl; have hcz28_2 : w25.cell? ⟨gb328, 2, none⟩ = some (.slice A1_2 l1_2.length c1_2) := (blk_cell BK328.out 2).trans rfl; have hcz28_3 : w25.cell? ⟨gb328, 3, none⟩ = some (.int .i64 a1_3) := (blk_cell BK328.out 3).trans rfl; have hfz28_0 := blk_frozen BK328.out 0; have hfz28_1 := blk_frozen BK328.out 1; have hfz28_2 := blk_frozen BK328.out 2; have hfz28_3 := blk_frozen BK328.out 3))
        go_ret
        exact ⟨by first | rfl | (simp [errW_none, errW_some] <;> rfl) | (simp [*, errW_none, errW_some] <;> rfl), by repeat (first | (with_reducible first | exact HB.out | apply below_alloc | apply pw_below_drewN | apply below_drew1 | refine below_set ?_ GE327.out | refine below_set ?_ GE328.out) | exact HB.out)⟩
    · rw [if_neg c4] at H
      have c4b0 : (a0_1 == a1_1) = false := beq_eq_false_iff_ne.mpr c4
      have c4b1 : (a0_1 != a1_1) = true := bne_iff_ne.mpr c4
      obtain rfl := Option.some.inj H
      go_enter Try.func36, Try.ntmps36
      go_wp2_with (first | ((with_reducible refine gate_dst (N := 2) rfl ?_); (try (refine gate_guard (by rfl) ?_; dsimp only)); refine box_event ?hg (N := 2) ?hd (cs := #[.int .u32 a0_0, .int .i64 a0_1, .slice A0_2 l0_2.length c0_2, .int .i64 a0_3, .bool a0_4]) (t := 64) ?hr ?_; (case hd => rfl); (case hg => rfl); (case hr => first | (go_simp; done) | (go_simp; rfl)); intro gb327 hg w29 hbox hb; have n0_ := Aside0.mk (below_step (by repeat (first | (with_reducible first | exact HB.out | apply below_alloc | apply pw_below_drewN | apply below_drew1) | exact HB.out)) hb); have n1_ := Aside0.mk (hbox); have n2_ := Aside0.mk ((by rw [hg]; exact (below_size (by repeat (first | (with_reducible first | exact HB.out | apply below_alloc | apply pw_below_drewN | apply below_drew1) | exact HB.out))) : w.heap.size ≤ gb327)); have n3_ := Aside0.mk ((by rw [hg]; exact (below_size (by repeat (first | (with_reducible first | exact HB.out | apply below_alloc | apply pw_below_drewN | apply below_drew1) | exact HB.out))) : w.heap.size ≤ gb327)); clear HB; have HB := n0_; have BK327 := n1_; have GW327 := n2_; have GE327 := n3_; clear n0_ n1_ n2_ n3_; clear hb hbox hg) | ((with_reducible refine gate_dst (N := 3) rfl ?_); (try (refine gate_guard (by rfl) ?_; dsimp only)); refine box_event ?hg (N := 3) ?hd (cs := #[.int .u32 a1_0, .int .i64 a1_1, .slice A1_2 l1_2.length c1_2, .int .i64 a1_3]) (t := 69) ?hr ?_; (case hd => rfl); (case hg => rfl); (case hr => first | (go_simp; done) | (go_simp; rfl)); intro gb328 hg w30 hbox hb; have n0_ := Aside0.mk (blk_below (g := gb327) (o := .cells #[.int .u32 a0_0, .int .i64 a0_1, .slice A0_2 l0_2.length c0_2, .int .i64 a0_3, .bool a0_4] 64 (0, 0)) (by (with_reducible repeat (first | refine blk_drewN ?_ _ | refine blk_drew ?_ | refine blk_alloc ?_ _)); exact BK327.out) hb); have n1_ := Aside0.mk (below_step (by repeat (first | (with_reducible first | exact HB.out | apply below_alloc | apply pw_below_drewN | apply below_drew1 | refine below_set ?_ GE327.out) | exact HB.out)) hb); have n2_ := Aside0.mk (hbox); have n3_ := Aside0.mk ((by rw [hg]; exact (below_size (by repeat (first | (with_reducible first | exact HB.out | apply below_alloc | apply pw_below_drewN | apply below_drew1 | refine below_set ?_ GE327.out) | exact HB.out))) : w.heap.size ≤ gb328)); have n4_ := Aside0.mk ((by rw [hg]; exact (below_size (by repeat (first | (with_reducible first | exact HB.out | apply below_alloc | apply pw_below_drewN | apply below_drew1 | refine below_set ?_ GE327.out) | exact HB.out))) : w.heap.size ≤ gb328)); have n5_ := Aside0.mk ((by rw [hg]; exact Nat.ne_of_lt (blk_lt (g := gb327) (o := .cells #[.int .u32 a0_0, .int .i64 a0_1, .slice A0_2 l0_2.length c0_2, .int .i64 a0_3, .bool a0_4] 64 (0, 0)) (by (with_reducible repeat (first | refine blk_drewN ?_ _ | refine blk_drew ?_ | refine blk_alloc ?_ _)); exact BK327.out)) : gb327 ≠ gb328)); have n6_ := Aside0.mk ((by rw [hg]; exact Nat.ne_of_gt (blk_lt (g := gb327) (o := .cells #[.int .u32 a0_0, .int .i64 a0_1, .slice A0_2 l0_2.length c0_2, .int .i64 a0_3, .bool a0_4] 64 (0, 0)) (by (with_reducible repeat (first | refine blk_drewN ?_ _ | refine blk_drew ?_ | refine blk_alloc ?_ _)); exact BK327.out)) : gb328 ≠ gb327)); clear BK327; clear HB; have BK327 := n0_; have HB := n1_; have BK328 := n2_; have GW328 := n3_; have GE328 := n4_; have NB327_328 := n5_; have NB328_327 := n6_; clear n0_ n1_ n2_ n3_ n4_ n5_ n6_; clear hb hbox hg; have hnb31 := NB327_328.out; have hnc31 := NB328_327.out; have hcz32_0 : w30.cell? ⟨gb327, 0, none⟩ = some (.int .u32 a0_0) := (blk_cell BK327.out 0).trans rfl; have hcz32_1 : w30.cell? ⟨gb327, 1, none⟩ = some (.int .i64 a0_1) := (blk_cell BK327.out 1).trans rfl; have hcz32_2 : w30.cell? ⟨gb327, 2, none⟩ = some (.slice A0_2 l0_2.length c0_2) := (blk_cell BK327.out 2).trans rfl; have hcz32_3 : w30.cell? ⟨gb327, 3, none⟩ = some (.int .i64 a0_3) := (blk_cell BK327.out 3).trans rfl; have hcz32_4 : w30.cell? ⟨gb327, 4, none⟩ = some (.bool a0_4) := (blk_cell BK327.out 4).trans rfl; have hfz32_0 := blk_frozen BK327.out 0; have hfz32_1 := blk_frozen BK327.out 1; have hfz32_2 := blk_frozen BK327.out 2; have hfz32_3 := blk_frozen BK327.out 3; have hfz32_4 := blk_frozen BK327.out 4; have hcz33_0 : w30.cell? ⟨gb328, 0, none⟩ = some (.int .u32 a1_0) := (blk_cell BK328.out 0).trans rfl; have hcz33_1 : w30.cell? ⟨gb328, 1, none⟩ = some (.int .i64 a1_1) := (blk_cell BK328.out 1).trans rfl; have hcz33_2 : w30.cell? ⟨gb328, 2, none⟩ = some (.slice A1_2 l1_2.length c1_2) := (blk_cell BK328.out 2).trans rfl; have hcz33_3 : w30.cell? ⟨gb328, 3, none⟩ = some (.int .i64 a1_3) := (blk_cell BK328.out 3).trans rfl; have hfz33_0 := blk_frozen BK328.out 0; have hfz33_1 := blk_frozen BK328.out 1; have hfz33_2 := blk_frozen BK328.out 2; have hfz33_3 := blk_frozen BK328.out 3))
      go_ret
      exact ⟨by first | rfl | (simp [errW_none, errW_some] <;> rfl) | (simp [*, errW_none, errW_some] <;> rfl), by repeat (first | (with_reducible first | exact HB.out | apply below_alloc | apply pw_below_drewN | apply below_drew1 | refine below_set ?_ GE327.out | refine below_set ?_ GE328.out) | exact HB.out)⟩
  · rw [if_neg c3] at H
    have c3b0 : (a0_0 == a1_0) = false := beq_eq_false_iff_ne.mpr c3
    have c3b1 : (a0_0 != a1_0) = true := bne_iff_ne.mpr c3
    obtain rfl := Option.some.inj H
    go_enter Try.func36, Try.ntmps36
    go_wp2_with (first | ((with_reducible refine gate_dst (N := 2) rfl ?_); (try (refine gate_guard (by rfl) ?_; dsimp only)); refine box_event ?hg (N := 2) ?hd (cs := #[.int .u32 a0_0, .int .i64 a0_1, .slice A0_2 l0_2.length c0_2, .int .i64 a0_3, .bool a0_4]) (t := 64) ?hr ?_; (case hd => rfl); (case hg => rfl); (case hr => first | (go_simp; done) | (go_simp; rfl)); intro gb327 hg w34 hbox hb; have n0_ := Aside0.mk (below_step (by repeat (first | (with_reducible first | exact HB.out | apply below_alloc | apply pw_below_drewN | apply below_drew1) | exact HB.out)) hb); have n1_ := Aside0.mk (hbox); have n2_ := Aside0.mk ((by rw [hg]; exact (below_size (by repeat (first | (with_reducible first | exact HB.out | apply below_alloc | apply pw_below_drewN | apply below_drew1) | exact HB.out))) : w.heap.size ≤ gb327)); have n3_ := Aside0.mk ((by rw [hg]; exact (below_size (by repeat (first | (with_reducible first | exact HB.out | apply below_alloc | apply pw_below_drewN | apply below_drew1) | exact HB.out))) : w.heap.size ≤ gb327)); clear HB; have HB := n0_; have BK327 := n1_; have GW327 := n2_; have GE327 := n3_; clear n0_ n1_ n2_ n3_; clear hb hbox hg) | ((with_reducible refine gate_dst (N := 3) rfl ?_); (try (refine gate_guard (by rfl) ?_; dsimp only)); refine box_event ?hg (N := 3) ?hd (cs := #[.int .u32 a1_0, .int .i64 a1_1, .slice A1_2 l1_2.length c1_2, .int .i64 a1_3]) (t := 69) ?hr ?_; (case hd => rfl); (case hg => rfl); (case hr => first | (go_simp; done) | (go_simp; rfl)); intro gb328 hg w35 hbox hb; have n0_ := Aside0.mk (blk_below (g := gb327) (o := .cells #[.int .u32 a0_0, .int .i64 a0_1, .slice A0_2 l0_2.length c0_2, .int .i64 a0_3, .bool a0_4] 64 (0, 0)) (by (with_reducible repeat (first | refine blk_drewN ?_ _ | refine blk_drew ?_ | refine blk_alloc ?_ _)); exact BK327.out) hb); have n1_ := Aside0.mk (below_step (by repeat (first | (with_reducible first | exact HB.out | apply below_alloc | apply pw_below_drewN | apply below_drew1 | refine below_set ?_ GE327.out) | exact HB.out)) hb); have n2_ := Aside0.mk (hbox); have n3_ := Aside0.mk ((by rw [hg]; exact (below_size (by repeat (first | (with_reducible first | exact HB.out | apply below_alloc | apply pw_below_drewN | apply below_drew1 | refine below_set ?_ GE327.out) | exact HB.out))) : w.heap.size ≤ gb328)); have n4_ := Aside0.mk ((by rw [hg]; exact (below_size (by repeat (first | (with_reducible first | exact HB.out | apply below_alloc | apply pw_below_drewN | apply below_drew1 | refine below_set ?_ GE327.out) | exact HB.out))) : w.heap.size ≤ gb328)); have n5_ := Aside0.mk ((by rw [hg]; exact Nat.ne_of_lt (blk_lt (g := gb327) (o := .cells #[.int .u32 a0_0, .int .i64 a0_1, .slice A0_2 l0_2.length c0_2, .int .i64 a0_3, .bool a0_4] 64 (0, 0)) (by (with_reducible repeat (first | refine blk_drewN ?_ _ | refine blk_drew ?_ | refine blk_alloc ?_ _)); exact BK327.out)) : gb327 ≠ gb328)); have n6_ := Aside0.mk ((by rw [hg]; exact Nat.ne_of_gt (blk_lt (g := gb327) (o := .cells #[.int .u32 a0_0, .int .i64 a0_1, .slice A0_2 l0_2.length c0_2, .int .i64 a0_3, .bool a0_4] 64 (0, 0)) (by (with_reducible repeat (first | refine blk_drewN ?_ _ | refine blk_drew ?_ | refine blk_alloc ?_ _)); exact BK327.out)) : gb328 ≠ gb327)); clear BK327; clear HB; have BK327 := n0_; have HB := n1_; have BK328 := n2_; have GW328 := n3_; have GE328 := n4_; have NB327_328 := n5_; have NB328_327 := n6_; clear n0_ n1_ n2_ n3_ n4_ n5_ n6_; clear hb hbox hg; have hnb36 := NB327_328.out; have hnc36 := NB328_327.out; have hcz37_0 : w35.cell? ⟨gb327, 0, none⟩ = some (.int .u32 a0_0) := (blk_cell BK327.out 0).trans rfl; have hcz37_1 : w35.cell? ⟨gb327, 1, none⟩ = some (.int .i64 a0_1) := (blk_cell BK327.out 1).trans rfl; have hcz37_2 : w35.cell? ⟨gb327, 2, none⟩ = some (.slice A0_2 l0_2.length c0_2) := (blk_cell BK327.out 2).trans rfl; have hcz37_3 : w35.cell? ⟨gb327, 3, none⟩ = some (.int .i64 a0_3) := (blk_cell BK327.out 3).trans rfl; have hcz37_4 : w35.cell? ⟨gb327, 4, none⟩ = some (.bool a0_4) := (blk_cell BK327.out 4).trans rfl; have hfz37_0 := blk_frozen BK327.out 0; have hfz37_1 := blk_frozen BK327.out 1; have hfz37_2 := blk_frozen BK327.out 2; have hfz37_3 := blk_frozen BK327.out 3; have hfz37_4 := blk_frozen BK327.out 4; have hcz38_0 : w35.cell? ⟨gb328, 0, none⟩ = some (.int .u32 a1_0) := (blk_cell BK328.out 0).trans rfl; have hcz38_1 : w35.cell? ⟨gb328, 1, none⟩ = some (.int .i64 a1_1) := (blk_cell BK328.out 1).trans rfl; have hcz38_2 : w35.cell? ⟨gb328, 2, none⟩ = some (.slice A1_2 l1_2.length c1_2) := (blk_cell BK328.out 2).trans rfl; have hcz38_3 : w35.cell? ⟨gb328, 3, none⟩ = some (.int .i64 a1_3) := (blk_cell BK328.out 3).trans rfl; have hfz38_0 := blk_frozen BK328.out 0; have hfz38_1 := blk_frozen BK328.out 1; have hfz38_2 := blk_frozen BK328.out 2; have hfz38_3 := blk_frozen BK328.out 3))
    go_ret
    exact ⟨by first | rfl | (simp [errW_none, errW_some] <;> rfl) | (simp [*, errW_none, errW_some] <;> rfl), by repeat (first | (with_reducible first | exact HB.out | apply below_alloc | apply pw_below_drewN | apply below_drew1 | refine below_set ?_ GE327.out | refine below_set ?_ GE328.out) | exact HB.out)⟩
def merkhetlaw07_SegmentReads_fix (k : Nat) : Option Bool := (merkhetlaw07_fixed.f k).bind fun y => if y = true then some true else none
def merkhetlaw07_SegmentReads.f (k : Nat) (l0 : List Int) : Option Bool :=
  if (l0.length : Int) > 6000 then merkhetlaw07_SegmentReads_fix k
  else (segment_Read.f k l0).bind fun s => (merkhetref07_Read.f k (strOfNums l0)).bind fun x =>
    if s.2.2.2.2.2 = x.2.2.2.2 then ((merkhetlaw07_same.f k s.1 s.2.1 s.2.2.1 s.2.2.2.1 s.2.2.2.2.1 x.1 x.2.1 x.2.2.1 x.2.2.2.1).bind fun y =>
      if y = true ∧ (s.2.2.1.length ≤ 100000 ∧ ∀ b ∈ s.2.2.1, b.length ≤ 100000) then merkhetlaw07_SegmentReads_fix k else none) else none
theorem merkhetlaw07_SegmentReads_fix_mono (k : Nat) : LeO (merkhetlaw07_SegmentReads_fix k) (merkhetlaw07_SegmentReads_fix (k + 1)) := LeO.bind (merkhetlaw07_fixed.mono _) (fun _ => LeO.refl _)
theorem merkhetlaw07_SegmentReads.mono : ∀ a0 k, LeO (merkhetlaw07_SegmentReads.f k a0) (merkhetlaw07_SegmentReads.f (k + 1) a0) := by
  intro a0 k
  exact LeO.ite (merkhetlaw07_SegmentReads_fix_mono k) (LeO.bind (segment_Read.mono _ _) (fun _ => LeO.bind (merkhetref07_Read.mono _ _) (fun _ => LeO.ite (LeO.bind (merkhetlaw07_same.mono _ _ _ _ _ _ _ _ _ _) (fun _ => LeO.ite (merkhetlaw07_SegmentReads_fix_mono k) (LeO.refl _))) (LeO.refl _))))
theorem merkhetlaw07_SegmentReads_if {c : Prop} [Decidable c] {o : Option Bool} {r : Bool} (h : (if c then o else none) = some r) : c ∧ o = some r := by
  by_cases hc : c
  · exact ⟨hc, by simpa [hc] using h⟩
  · exact absurd h (by simp [hc])
theorem merkhetlaw07_SegmentReads_fx {k : Nat} {r : Bool} (h : merkhetlaw07_SegmentReads_fix k = some r) : r = true ∧ merkhetlaw07_fixed.f k = some true := by
  obtain ⟨y, hy, h2⟩ := Option.bind_eq_some_iff.mp h
  obtain ⟨rfl, h3⟩ := merkhetlaw07_SegmentReads_if h2
  exact ⟨(Option.some.inj h3).symm, hy⟩
set_option maxHeartbeats 8000000 in
set_option maxRecDepth 100000 in
theorem merkhetlaw07_SegmentReads.calls (k : Nat) (A0 : Option Addr) (c0 : Nat) (l0 : List Int) (r : Bool) (w : World) (hr0 : Kd.C (Kd.int .u8) w A0 l0.length l0) (hc0 : l0.length ≤ c0) (h : merkhetlaw07_SegmentReads.f k l0 = some r) :
    Calls Try.prog 12 #[.slice A0 l0.length c0] w fun e w' => e = .returned (.bool r) ∧ Below w.heap.size w w' := by
  have hu_ := Try.underlying64
  have hu2_ := Try.underlying69
  have HR := Aside0.mk hr0
  have HC := Aside0.mk hc0
  clear hr0 hc0
  unfold merkhetlaw07_SegmentReads.f at h
  by_cases c : (l0.length : Int) > 6000
  · rw [if_pos c] at h
    obtain ⟨rfl, hy⟩ := merkhetlaw07_SegmentReads_fx h
    have HY := Aside0.mk hy
    clear h hy
    go_enter Try.func12, Try.ntmps12
    go_wp2_with (fail)
    refine (merkhetlaw07_fixed.calls k true _ HY.out).mono ?_
    rintro e w2 ⟨rfl, hb⟩
    have HB2 := Aside0.mk hb
    clear hb
    go_wp2_with (fail)
    go_ret
    exact ⟨rfl, HB2.out⟩
  rw [if_neg c] at h
  obtain ⟨⟨s1, s2, s3, s4, s5, e1⟩, hg, h1⟩ := Option.bind_eq_some_iff.mp h
  obtain ⟨⟨x1, x2, x3, x4, e2⟩, hf, h2⟩ := Option.bind_eq_some_iff.mp h1
  obtain ⟨he, h3⟩ := merkhetlaw07_SegmentReads_if h2
  have he : e1 = e2 := he
  subst he
  obtain ⟨y, hs, h4⟩ := Option.bind_eq_some_iff.mp h3
  obtain ⟨⟨rfl, hL1, hL2⟩, h5⟩ := merkhetlaw07_SegmentReads_if h4
  obtain ⟨rfl, hy⟩ := merkhetlaw07_SegmentReads_fx h5
  have hs : merkhetlaw07_same.f k s1 s2 s3 s4 s5 x1 x2 x3 x4 = some true := hs
  have hL1 : s3.length ≤ 100000 := hL1
  have hL2 : ∀ b ∈ s3, b.length ≤ 100000 := hL2
  have HG := Aside0.mk hg
  have HF := Aside0.mk hf
  have HS := Aside0.mk hs
  have HY := Aside0.mk hy
  have HL1 := Aside0.mk hL1
  have HL2 := Aside0.mk hL2
  clear h h1 h2 h3 h4 h5 hg hf hs hy hL1 hL2
  have hcv := Kd.C_string (P := Try.prog) (A := A0) (c := c0) Try.underlying25 Try.underlying5 Try.underlying9 HR.out
  go_enter Try.func12, Try.ntmps12
  go_wp2_with (fail)
  refine (segment_Read.calls k A0 c0 l0 s1 s2 s3 s4 s5 e1 _ HR.out HC.out HG.out).mono ?_
  rintro e w2 ⟨v1, rfl, hO, hb⟩
  obtain ⟨A1, c1, rfl⟩ := Kd.S_slice hO
  have HO2 := Aside0.mk hO
  have HB2 := Aside0.mk hb
  have HBA := Aside0.mk (below_alloc hb (.cells #[.int .u32 s1, .int .i64 s2, .slice A1 s3.length c1, .int .i64 s4, .bool s5] 64 (0, 0)))
  have HK2 := Aside0.mk (blk_new w2 (.cells #[.int .u32 s1, .int .i64 s2, .slice A1 s3.length c1, .int .i64 s4, .bool s5] 64 (0, 0)))
  clear hO hb hcv
  go_wp2_with (fail)
  refine (merkhetref07_Read.calls k (strOfNums l0) x1 x2 x3 x4 e1 _ HF.out).mono ?_
  rintro e w3 ⟨v2, rfl, hP, hb⟩
  obtain ⟨A2, c2, rfl⟩ := Kd.R_slice hP
  have HB3 := Aside0.mk (below_step HBA.out hb)
  have HK3 := Aside0.mk (blk_below HK2.out hb)
  have HO3 := Aside0.mk (Kd.S_below (Kd.S_alloc HO2.out (.cells #[.int .u32 s1, .int .i64 s2, .slice A1 s3.length c1, .int .i64 s4, .bool s5] 64 (0, 0))) hb)
  have HP3 := Aside0.mk hP
  clear hb hP HBA HK2 HO2
  have HBA3 := Aside0.mk (below_alloc HB3.out (.cells #[.int .u32 x1, .int .i64 x2, .slice A2 x3.length c2, .int .i64 x4] 69 (0, 0)))
  have HKA := Aside0.mk (blk_alloc HK3.out (.cells #[.int .u32 x1, .int .i64 x2, .slice A2 x3.length c2, .int .i64 x4] 69 (0, 0)))
  have HKB := Aside0.mk (blk_new w3 (.cells #[.int .u32 x1, .int .i64 x2, .slice A2 x3.length c2, .int .i64 x4] 69 (0, 0)))
  have HOA := Aside0.mk (Kd.S_alloc HO3.out (.cells #[.int .u32 x1, .int .i64 x2, .slice A2 x3.length c2, .int .i64 x4] 69 (0, 0)))
  have HPA := Aside0.mk (Kd.R_alloc HP3.out (.cells #[.int .u32 x1, .int .i64 x2, .slice A2 x3.length c2, .int .i64 x4] 69 (0, 0)))
  have ka0 : (w3.alloc (.cells #[.int .u32 x1, .int .i64 x2, .slice A2 x3.length c2, .int .i64 x4] 69 (0, 0))).cell? ⟨w2.heap.size, 0, none⟩ = some (.int .u32 s1) := (blk_cell HKA.out 0).trans rfl
  have ka1 : (w3.alloc (.cells #[.int .u32 x1, .int .i64 x2, .slice A2 x3.length c2, .int .i64 x4] 69 (0, 0))).cell? ⟨w2.heap.size, 1, none⟩ = some (.int .i64 s2) := (blk_cell HKA.out 1).trans rfl
  have ka2 : (w3.alloc (.cells #[.int .u32 x1, .int .i64 x2, .slice A2 x3.length c2, .int .i64 x4] 69 (0, 0))).cell? ⟨w2.heap.size, 2, none⟩ = some (.slice A1 s3.length c1) := (blk_cell HKA.out 2).trans rfl
  have ka3 : (w3.alloc (.cells #[.int .u32 x1, .int .i64 x2, .slice A2 x3.length c2, .int .i64 x4] 69 (0, 0))).cell? ⟨w2.heap.size, 3, none⟩ = some (.int .i64 s4) := (blk_cell HKA.out 3).trans rfl
  have ka4 : (w3.alloc (.cells #[.int .u32 x1, .int .i64 x2, .slice A2 x3.length c2, .int .i64 x4] 69 (0, 0))).cell? ⟨w2.heap.size, 4, none⟩ = some (.bool s5) := (blk_cell HKA.out 4).trans rfl
  have kb0 : (w3.alloc (.cells #[.int .u32 x1, .int .i64 x2, .slice A2 x3.length c2, .int .i64 x4] 69 (0, 0))).cell? ⟨w3.heap.size, 0, none⟩ = some (.int .u32 x1) := (blk_cell HKB.out 0).trans rfl
  have kb1 : (w3.alloc (.cells #[.int .u32 x1, .int .i64 x2, .slice A2 x3.length c2, .int .i64 x4] 69 (0, 0))).cell? ⟨w3.heap.size, 1, none⟩ = some (.int .i64 x2) := (blk_cell HKB.out 1).trans rfl
  have kb2 : (w3.alloc (.cells #[.int .u32 x1, .int .i64 x2, .slice A2 x3.length c2, .int .i64 x4] 69 (0, 0))).cell? ⟨w3.heap.size, 2, none⟩ = some (.slice A2 x3.length c2) := (blk_cell HKB.out 2).trans rfl
  have kb3 : (w3.alloc (.cells #[.int .u32 x1, .int .i64 x2, .slice A2 x3.length c2, .int .i64 x4] 69 (0, 0))).cell? ⟨w3.heap.size, 3, none⟩ = some (.int .i64 x4) := (blk_cell HKB.out 3).trans rfl
  have hne_ : (e1 == e1) = true := beq_self_eq_true e1
  go_wp2_with (fail)
  refine (merkhetlaw07_same.calls k s1 s2 A1 c1 s3 s4 s5 x1 x2 A2 c2 x3 x4 true _ (Kd.S_reads' HOA.out).2.2 (Kd.S_reads' HOA.out).2.1 (Kd.R_reads' HPA.out).2.2 (Kd.R_reads' HPA.out).2.1 HS.out).mono ?_
  rintro e w5 ⟨rfl, hb⟩
  have HB5 := Aside0.mk (below_step HBA3.out hb)
  have HK5 := Aside0.mk (blk_below HKA.out hb)
  obtain ⟨A, cc, e, hrow⟩ := Go.Proofs.Ytdpodjgggicaoaa.H.u8rows (Kd.S_R (Kd.S_below HOA.out hb)) (fun x hx => Nat.le_trans (HL2.out x hx) (by decide))
  injection e with ea _ ec
  subst ea ec
  have HROW := Aside0.mk hrow
  clear ka0 ka1 ka2 ka3 ka4 kb0 kb1 kb2 kb3 hb hrow HBA3 HKA HKB HOA HPA HO3 HP3 HK3 HB3 HS HF HG
  have ka2 : w5.cell? ⟨w2.heap.size, 2, none⟩ = some (.slice A1 s3.length c1) := (blk_cell HK5.out 2).trans rfl
  go_wp2_with (fail)
  clear ka2
  go_loopg [39] s3.length (fun d v39 wr => ∃ (i : Nat), i + d = s3.length ∧ v39 = .int .i64 i ∧ Aside0 (Below w.heap.size w wr) ∧ Aside0 (Go.Proofs.Ytdpodjgggicaoaa.H.U8Keep 5 w5 wr))
  case atStart => exact ⟨0, by omega, rfl, HB5, ⟨Go.Proofs.Ytdpodjgggicaoaa.H.u8keep_refl _ _⟩⟩
  case round =>
    clear HB5
    obtain ⟨i, hi, rfl, HB, HU⟩ := hrel
    by_cases hlt : i < s3.length
    · have hltz : (i : Int) < (s3.length : Int) := by omega
      obtain ⟨g, rfl, cells, hcells, hel⟩ := HROW.out (by omega)
      obtain ⟨u, hu, hur⟩ := hel i hlt
      have hnl := HL2.out _ (List.getElem_mem hlt)
      have hx : wr.cell? ⟨g, i, none⟩ = some u := by rw [← hu, ← blk_cell hcells i]; exact World.cell?_of_block (Go.Proofs.Ytdpodjgggicaoaa.H.u8keep_other HU.out hcells (by decide))
      generalize s3[i].length = n at hur hnl
      obtain ⟨A7, c7, rfl, _⟩ := id hur
      have HUR := Aside0.mk hur
      have HNL := Aside0.mk hnl
      have hi9 : (i : Int) < 100000 := by have := HL1.out; omega
      clear hcells hel hu hur hnl
      go_wp2_with (fail)
      clear hx
      go_loopg [45] n (fun d v45 wq => ∃ (j : Nat), j + d = n ∧ v45 = .int .i64 j ∧ Aside0 (Below w.heap.size w wq) ∧ Aside0 (Go.Proofs.Ytdpodjgggicaoaa.H.U8Keep 5 w5 wq))
      case atStart => exact ⟨0, by omega, rfl, HB, HU⟩
      case round =>
        clear HB HU
        obtain ⟨j, hj, rfl, HB, HU⟩ := hrel
        by_cases hjt : j < n
        · have hjz : (j : Int) < (n : Int) := by omega
          obtain ⟨g7, x, rfl, hb7, hcur, hcell, hfz, hl7⟩ := Go.Proofs.Ytdpodjgggicaoaa.H.u8row_cell HUR.out HU.out j hjt
          have hj9 : (j : Int) < 100000 := by have := HNL.out; omega
          have HBN := Aside0.mk (show Below w.heap.size w (wr.setCell ⟨g7, j, none⟩ (.int .u8 (IntKind.u8.wrap (x + 1)))) from below_set HB.out hb7)
          have HUN := Aside0.mk (Go.Proofs.Ytdpodjgggicaoaa.H.u8keep_set (j := j) (y := IntKind.u8.wrap (x + 1)) HU.out hcur)
          clear hcur
          go_wp2_with (fail)
          go_roundg (n - (j + 1))
          case measure => omega
          case rel => exact ⟨j + 1, by omega, by go_num, HBN, HUN⟩
        · have hjz : ¬ (j : Int) < (n : Int) := by omega
          go_wp2_with (fail)
          go_roundg (s3.length - (i + 1))
          case measure => omega
          case rel => exact ⟨i + 1, by omega, by go_num, HB, HU⟩
    · have hltz : ¬ (i : Int) < (s3.length : Int) := by omega
      go_wp2_with (fail)
      refine (merkhetlaw07_fixed.calls k true _ HY.out).mono ?_
      rintro e w7 ⟨rfl, hb⟩
      have HB7 := Aside0.mk (below_step HB.out hb)
      have hcv2 := Kd.C_string (P := Try.prog) (A := A0) (c := c0) Try.underlying25 Try.underlying5 Try.underlying9 (Kd.C_below HR.out HB7.out)
      clear hb
      go_wp2_with (fail)
      go_ret
      exact ⟨rfl, HB7.out⟩
def merkhetlaw07_SegmentReads.Pure : Prop := ∀ (l0 : List Int), l0.length ≤ maxLen → l0.length * 1 ≤ 140737488351232 → (∀ x0_ ∈ l0, (Lit.int .u8 x0_).wf = true) → ∃ k, merkhetlaw07_SegmentReads.f k l0 = some true
end Go.Proofs.Ytdpodjgggicaoaa.SS
