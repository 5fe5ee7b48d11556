-- WRITTEN FOR THIS CLAIM by wip/tools/mp.py, a program of this project that drives the kit's print; the functions that the print does not take are this project's own texts.
import Derived.Test.YthlekphkibeflaaDx0
import Derived.Test.YthlekphkibeflaaDx3
namespace Go.Proofs.Ythlekphkibeflaa.D
open Go.RowKit Go.Proofs.YthlekphkibeflaaW.PrintWords Go.Proofs.YthlekphkibeflaaW.PrintLast Go.Proofs.YthlekphkibeflaaW.PrintMore
attribute [local go_sem] max2_int min2_int max_two min_two max_three min_three max_four min_four   -- for this text's walks alone
set_option linter.unusedVariables false
set_option linter.unusedSimpArgs false

/-! ### merkhetref15_Same: function 13 -/
def merkhetref15_Same.l0 : Nat → List Int → List Int → Int → Option (Bool)
  | 0, _, _, _ => none
  | k + 1, x0, x1, x5 => if x5 < (x0.length : Int) then (if 0 ≤ x5 then (if x5 < (x1.length : Int) then (if (rd x0 x5) = (rd x1 x5) then (merkhetref15_Same.l0 k x0 x1 (wrap64 (x5 + 1))) else (some false)) else (none)) else (none)) else (some true)
def merkhetref15_Same.f (k : Nat) (l0 : List Int) (l1 : List Int) : Option (Bool) := if (l0.length : Int) = (l1.length : Int) then (merkhetref15_Same.l0 k l0 l1 0) else (some false)
theorem merkhetref15_Same.mono_l : ∀ k, (∀ y0 y1 y2, LeO (merkhetref15_Same.l0 k y0 y1 y2) (merkhetref15_Same.l0 (k + 1) y0 y1 y2))
  | 0 => fun _ _ _ r h => by simp [merkhetref15_Same.l0] at h
  | k + 1 => by
    have ih0 := merkhetref15_Same.mono_l k
    · intro y0 y1 y2
      unfold merkhetref15_Same.l0
      repeat' first
      | (with_reducible exact ih0 _ _ _)
      | (with_reducible exact LeO.refl _)
      | (with_reducible exact LeO.none _)
      | (with_reducible refine LeO.ite ?_ ?_)
      | (with_reducible refine LeO.bind ?_ (fun _ => ?_))
      | exact ih0 _ _ _
      | exact LeO.none _
      | refine LeO.ite ?_ ?_
      | refine LeO.bind ?_ (fun _ => ?_)
theorem merkhetref15_Same.mono : ∀ a0 a1 k, LeO (merkhetref15_Same.f k a0 a1) (merkhetref15_Same.f (k + 1) a0 a1) := by
  intro a0 a1 k
  have ih0 := merkhetref15_Same.mono_l k
  unfold merkhetref15_Same.f
  repeat' first
      | (with_reducible exact ih0 _ _ _)
      | (with_reducible exact LeO.refl _)
      | (with_reducible exact LeO.none _)
      | (with_reducible refine LeO.ite ?_ ?_)
      | (with_reducible refine LeO.bind ?_ (fun _ => ?_))
      | exact ih0 _ _ _
      | exact LeO.none _
      | refine LeO.ite ?_ ?_
      | refine LeO.bind ?_ (fun _ => ?_)
set_option maxHeartbeats 8000000 in
set_option maxRecDepth 100000 in
theorem merkhetref15_Same.calls (k : Nat) (A0 : Option Addr) (c0 : Nat) (l0 : List Int) (A1 : Option Addr) (c1 : Nat) (l1 : List Int) (r : Bool) (w : World) (hr0 : Kd.C (Kd.int .i64) w A0 l0.length l0) (hc0 : l0.length ≤ c0) (hr1 : Kd.C (Kd.int .i64) w A1 l1.length l1) (hc1 : l1.length ≤ c1) (h : merkhetref15_Same.f k l0 l1 = some r) :
    Calls Try.prog 13 #[.slice A0 l0.length c0, .slice A1 l1.length c1] w fun e w' => e = .returned (.bool r) ∧ Drawn0 w w' := by
  have HR0 := Aside0.mk hr0
  have HC0 := Aside0.mk hc0
  clear hr0 hc0
  have HR1 := Aside0.mk hr1
  have HC1 := Aside0.mk hc1
  clear hr1 hc1
  have H : (if (l0.length : Int) = (l1.length : Int) then (merkhetref15_Same.l0 k l0 l1 0) else (some false)) = some r := h
  clear h
  by_cases c3 : (l0.length : Int) = (l1.length : Int)
  · rw [if_pos c3] at H
    have c3b0 : ((l0.length : Int) == (l1.length : Int)) = true := beq_iff_eq.mpr c3
    have c3b1 : ((l0.length : Int) != (l1.length : Int)) = false := bne_eq_false_iff_eq.mpr c3
    have c3b2 : (l0.length == l1.length) = true := by first | simpa using c3 | (simp at c3 ⊢; omega)
    clear c3
    have H' := Aside0.mk H
    clear H
    go_enter Try.func13, Try.ntmps13
    go_wp2
    repeat (go_quiet (fail); try go_wp2)
    go_loopg [5] k (fun kq v5 w' => ∃ (x5_1 : Int), v5 = .int .i64 x5_1 ∧ Aside0 (merkhetref15_Same.l0 kq l0 l1 x5_1 = some r) ∧ Aside0 (kq ≤ k) ∧ Drawn0 w w')
    case atStart => exact ⟨(0), (by first | rfl | (simp; done) | (simp [*]; done)), H', ⟨Nat.le_refl _⟩, by repeat (first | exact Drawn0.refl _ | apply Drawn0.step)⟩
    case round =>
      clear H'
      try clear c1
      try clear p2
      try clear c3
      try clear c3b0
      try clear c3b1
      try clear c3b2
      obtain ⟨x5_1, rfl, HA, HK1, ⟨m1, rfl⟩⟩ := hrel
      cases gk with
      | zero => exact absurd HA.out (by simp [merkhetref15_Same.l0])
      | succ k1 =>
        have H := HA.out
        clear HA
        simp only [merkhetref15_Same.l0] at H
        by_cases c4 : x5_1 < (l0.length : Int)
        · rw [if_pos c4] at H
          have c4b0 : decide (x5_1 < (l0.length : Int)) = true := decide_eq_true c4
          clear c4
          by_cases c5 : 0 ≤ x5_1
          · rw [if_pos c5] at H
            have c5b0 : decide (0 ≤ x5_1) = true := decide_eq_true c5
            clear c5
            by_cases c6 : x5_1 < (l1.length : Int)
            · rw [if_pos c6] at H
              have c6b0 : decide (x5_1 < (l1.length : Int)) = true := decide_eq_true c6
              clear c6
              by_cases c7 : (rd l0 x5_1) = (rd l1 x5_1)
              · rw [if_pos c7] at H
                have c7b0 : ((rd l0 x5_1) == (rd l1 x5_1)) = true := beq_iff_eq.mpr c7
                have c7b1 : ((rd l0 x5_1) != (rd l1 x5_1)) = false := bne_eq_false_iff_eq.mpr c7
                clear c7
                have H' := Aside0.mk H
                clear H
                have p112 : 0 ≤ (x5_1 : Int) := of_decide_eq_true (by first | (with_reducible assumption) | assumption)
                have q112 : x5_1 < (l0.length : Int) := of_decide_eq_true (by first | (with_reducible assumption) | assumption)
                obtain ⟨ad112, e112, hx112_0⟩ := Kd.at_int HR0.out x5_1 p112 q112
                cases e112
                replace p112 := eq_true p112
                replace q112 := eq_true q112
                have p113 : 0 ≤ (x5_1 : Int) := of_decide_eq_true (by first | (with_reducible assumption) | assumption)
                have q113 : x5_1 < (l1.length : Int) := of_decide_eq_true (by first | (with_reducible assumption) | assumption)
                obtain ⟨ad113, e113, hx113_0⟩ := Kd.at_int HR1.out x5_1 p113 q113
                cases e113
                replace p113 := eq_true p113
                replace q113 := eq_true q113
                go_wp2
                repeat (go_quiet (fail); try go_wp2)
                go_roundg k1
                case measure => have := HK1.out; omega
                case rel => exact ⟨(wrap64 (x5_1 + 1)), (by first | rfl | (simp; done) | (simp [*]; done)), H', ⟨by have := HK1.out; omega⟩, by repeat (first | exact Drawn0.refl _ | apply Drawn0.step)⟩
              · rw [if_neg c7] at H
                have c7b0 : ((rd l0 x5_1) == (rd l1 x5_1)) = false := beq_eq_false_iff_ne.mpr c7
                have c7b1 : ((rd l0 x5_1) != (rd l1 x5_1)) = true := bne_iff_ne.mpr c7
                obtain rfl := Option.some.inj H
                have p112 : 0 ≤ (x5_1 : Int) := of_decide_eq_true (by first | (with_reducible assumption) | assumption)
                have q112 : x5_1 < (l0.length : Int) := of_decide_eq_true (by first | (with_reducible assumption) | assumption)
                obtain ⟨ad112, e112, hx112_0⟩ := Kd.at_int HR0.out x5_1 p112 q112
                cases e112
                replace p112 := eq_true p112
                replace q112 := eq_true q112
                have p113 : 0 ≤ (x5_1 : Int) := of_decide_eq_true (by first | (with_reducible assumption) | assumption)
                have q113 : x5_1 < (l1.length : Int) := of_decide_eq_true (by first | (with_reducible assumption) | assumption)
                obtain ⟨ad113, e113, hx113_0⟩ := Kd.at_int HR1.out x5_1 p113 q113
                cases e113
                replace p113 := eq_true p113
                replace q113 := eq_true q113
                go_wp2
                repeat (go_quiet (fail); try go_wp2)
                go_ret
                exact ⟨by first | rfl | (simp; done) | (simp [*]; done), by repeat (first | exact Drawn0.refl _ | apply Drawn0.step)⟩
            · rw [if_neg c6] at H
              exact absurd H (by simp)
          · rw [if_neg c5] at H
            exact absurd H (by simp)
        · rw [if_neg c4] at H
          have c4b0 : decide (x5_1 < (l0.length : Int)) = false := decide_eq_false c4
          clear c4
          obtain rfl := Option.some.inj H
          go_wp2
          repeat (go_quiet (fail); try go_wp2)
          go_ret
          exact ⟨by first | rfl | (simp; done) | (simp [*]; done), by repeat (first | exact Drawn0.refl _ | apply Drawn0.step)⟩
  · rw [if_neg c3] at H
    have c3b0 : ((l0.length : Int) == (l1.length : Int)) = false := beq_eq_false_iff_ne.mpr c3
    have c3b1 : ((l0.length : Int) != (l1.length : Int)) = true := bne_iff_ne.mpr c3
    have c3b2 : (l0.length == l1.length) = false := by first | simpa using c3 | (simp at c3 ⊢; omega)
    obtain rfl := Option.some.inj H
    go_enter Try.func13, Try.ntmps13
    go_wp2
    repeat (go_quiet (fail); try go_wp2)
    go_ret
    exact ⟨by first | rfl | (simp; done) | (simp [*]; done), by repeat (first | exact Drawn0.refl _ | apply Drawn0.step)⟩

/-! ### merkhetlaw19_fixed: function 9 -/
def merkhetlaw19_fixed_sp (id s d : Int) : S34 := ⟨1, id, 0, 0, ⟨#[97]⟩, ⟨#[98]⟩, s, d⟩
def merkhetlaw19_fixed_l : List S34 := [merkhetlaw19_fixed_sp 1 10 20, merkhetlaw19_fixed_sp 2 5 10, merkhetlaw19_fixed_sp 3 25 10]
def merkhetlaw19_fixed.f (k : Nat) : Option Bool := (clamp_Starts.f k merkhetlaw19_fixed_l [-1, 0, 0]).bind fun y => if y.2 = true then merkhetref15_Same.f k y.1 [10, 10, 20] else some false
theorem merkhetlaw19_fixed.mono : ∀ k, LeO (merkhetlaw19_fixed.f k) (merkhetlaw19_fixed.f (k + 1)) := by
  intro k
  exact LeO.bind (clamp_Starts.mono _ _ _) (fun _ => LeO.ite (merkhetref15_Same.mono _ _ _) (LeO.refl _))
set_option maxHeartbeats 8000000 in
set_option maxRecDepth 100000 in
theorem merkhetlaw19_fixed_s (id s d : Int) (W : World) : Calls Try.prog 18 #[.int .u64 id, .int .i64 s, .int .i64 d] W fun e w' => e = .returned (.agg #[.int .u64 1, .int .u64 id, .int .u64 0, .int .u8 0, .string ⟨#[97]⟩, .string ⟨#[98]⟩, .int .i64 s, .int .i64 d]) ∧ Below W.heap.size W w' := by
  have hu_ := Try.underlying34
  go_enter Try.func18, Try.ntmps18
  go_wp2
  (try simp only [Exit.inBlock, Exit.then])
  refine bodyPost_ret (results_single rfl (.cell W.heap.size 34 _ (0, 0) _ rfl (blk_new W _) hu_ rfl (by kernel_rfl) .nil)) rfl ?_
  exact ⟨rfl, below_alloc (Below.refl _ _) _⟩
set_option maxHeartbeats 8000000 in
set_option maxRecDepth 100000 in
theorem merkhetlaw19_fixed.calls (k : Nat) (r : Bool) (w : World) (h : merkhetlaw19_fixed.f k = some r) :
    Calls Try.prog 9 #[] w fun e w' => e = .returned (.bool r) ∧ Below w.heap.size w w' := by
  have hu_ := Try.underlying34
  obtain ⟨⟨y, ok⟩, hy, h'⟩ := Option.bind_eq_some_iff.mp h
  clear h
  have h := h'
  clear h'
  have HY := Aside0.mk hy
  have HH := Aside0.mk h
  clear hy h
  go_enter Try.func9, Try.ntmps9
  have HB := Aside0.mk (Below.refl w.heap.size w)
  go_wp2_with (fail)
  refine (merkhetlaw19_fixed_s 1 10 20 _).mono ?_
  rintro e w1 ⟨rfl, hb⟩
  replace HB := Aside0.mk (below_step HB.out hb)
  clear hb
  go_wp2_with (fail)
  refine (merkhetlaw19_fixed_s 2 5 10 _).mono ?_
  rintro e w2 ⟨rfl, hb⟩
  replace HB := Aside0.mk (below_step HB.out hb)
  clear hb
  go_wp2_with (fail)
  refine (merkhetlaw19_fixed_s 3 25 10 _).mono ?_
  rintro e w3 ⟨rfl, hb⟩
  replace HB := Aside0.mk (below_step HB.out hb)
  clear hb
  go_wp2_with (first | ((with_reducible refine gate_dst (N := 11) rfl ?_); (try (refine gate_guard (by rfl) ?_; dsimp only)); refine Kd.R_lit k34 _ 34 ?hg (N := 11) ?hd (xs := ([(⟨1, 1, 0, 0, ⟨#[97]⟩, ⟨#[98]⟩, 10, 20⟩ : S34), (⟨1, 2, 0, 0, ⟨#[97]⟩, ⟨#[98]⟩, 5, 10⟩ : S34), (⟨1, 3, 0, 0, ⟨#[97]⟩, ⟨#[98]⟩, 25, 10⟩ : S34)] : List S34)) (inner := [.int .u64 1, .int .u64 1, .int .u64 0, .int .u8 0, .string ⟨#[97]⟩, .string ⟨#[98]⟩, .int .i64 10, .int .i64 20, .int .u64 1, .int .u64 2, .int .u64 0, .int .u8 0, .string ⟨#[97]⟩, .string ⟨#[98]⟩, .int .i64 5, .int .i64 10, .int .u64 1, .int .u64 3, .int .u64 0, .int .u8 0, .string ⟨#[97]⟩, .string ⟨#[98]⟩, .int .i64 25, .int .i64 10]) (ok := fun _ => True) (okp := fun _ => True) ?hr ?hp (fun _ hk => hk) trivial (Below.refl _ _) (Nat.le_refl _) (by simp) ?_; (case hd => rfl); (case hg => rfl); (case hr => first | (go_simp; done) | (go_simp; rfl)); (case hp => exact (Reps.c8 (show Kd.M k34 _ _ _ (⟨1, 1, 0, 0, ⟨#[97]⟩, ⟨#[98]⟩, 10, 20⟩ : S34) [.int .u64 1, .int .u64 1, .int .u64 0, .int .u8 0, .string ⟨#[97]⟩, .string ⟨#[98]⟩, .int .i64 10, .int .i64 20] from (k34_mkM _ _ _ (⟨1, 1, 0, 0, ⟨#[97]⟩, ⟨#[98]⟩, 10, 20⟩ : S34))) ((Reps.c8 (show Kd.M k34 _ _ _ (⟨1, 2, 0, 0, ⟨#[97]⟩, ⟨#[98]⟩, 5, 10⟩ : S34) [.int .u64 1, .int .u64 2, .int .u64 0, .int .u8 0, .string ⟨#[97]⟩, .string ⟨#[98]⟩, .int .i64 5, .int .i64 10] from (k34_mkM _ _ _ (⟨1, 2, 0, 0, ⟨#[97]⟩, ⟨#[98]⟩, 5, 10⟩ : S34))) ((Reps.c8 (show Kd.M k34 _ _ _ (⟨1, 3, 0, 0, ⟨#[97]⟩, ⟨#[98]⟩, 25, 10⟩ : S34) [.int .u64 1, .int .u64 3, .int .u64 0, .int .u8 0, .string ⟨#[97]⟩, .string ⟨#[98]⟩, .int .i64 25, .int .i64 10] from (k34_mkM _ _ _ (⟨1, 3, 0, 0, ⟨#[97]⟩, ⟨#[98]⟩, 25, 10⟩ : S34))) (Reps.none _ _))))))); intro v11 w4 ho hb hg_ hnew_; clear hg_ hnew_; have H11 : Aside0 (Kd.R k34 34 w4 w.heap.size (fun _ => True) v11 merkhetlaw19_fixed_l) := Aside0.mk (Kd.R_lower ho (below_size HB.out)); have HBn := Aside0.mk (below_step HB.out hb); clear HB; have HB := HBn; clear HBn hb ho) | ((with_reducible refine gate_dst (N := 12) rfl ?_); (try (refine gate_guard (by rfl) ?_; dsimp only)); refine Kd.R_lit (Kd.int .i64) _ 3 ?hg (N := 12) ?hd (xs := ([-1, 0, 0] : List Int)) (inner := [.int .i64 (-1), .int .i64 0, .int .i64 0]) (ok := fun _ => True) (okp := fun _ => True) ?hr ?hp (fun _ hk => hk) trivial (Below.refl _ _) (Nat.le_refl _) (by simp) ?_; (case hd => rfl); (case hg => rfl); (case hr => first | (go_simp; done) | (go_simp; rfl)); (case hp => exact (Reps.one (show Kd.M (Kd.int .i64) _ _ _ (-1) [.int .i64 (-1)] from rfl) ((Reps.one (show Kd.M (Kd.int .i64) _ _ _ (0) [.int .i64 (0)] from rfl) ((Reps.one (show Kd.M (Kd.int .i64) _ _ _ (0) [.int .i64 (0)] from rfl) (Reps.none _ _))))))); intro v12 w5 ho hb hg_ hnew_; clear hg_ hnew_; have H11n := Aside0.mk (Kd.R_below H11.out hb); have H12 := Aside0.mk (Kd.R_lower ho (below_size HB.out)); have HBn := Aside0.mk (below_step HB.out hb); clear HB H11; have HB := HBn; have H11 := H11n; clear HBn H11n hb ho; obtain ⟨A11, c11, e11⟩ := Kd.R_slice H11.out; subst e11; obtain ⟨A12, c12, e12⟩ := Kd.R_slice H12.out; subst e12))
  refine (clamp_Starts.calls k A11 c11 merkhetlaw19_fixed_l A12 c12 [-1, 0, 0] y ok _ (Kd.R_reads' H11.out).2.2 (Kd.R_reads' H11.out).2.1 (Kd.R_reads' H12.out).2.2 (Kd.R_reads' H12.out).2.1 HY.out).mono ?_
  rintro e w6 ⟨v13, rfl, h13, hb⟩
  obtain ⟨A13, c13, rfl⟩ := Kd.R_slice h13
  have H13 := Aside0.mk h13
  have HBn := Aside0.mk (below_step HB.out hb)
  clear HB h13 hb H11 H12
  have HB := HBn
  clear HBn
  cases ok with
  | false =>
    obtain rfl : false = r := by simpa using HH.out
    go_wp2_with (fail)
    go_ret
    exact ⟨rfl, HB.out⟩
  | true =>
    have h2 : merkhetref15_Same.f k y [10, 10, 20] = some r := by have h_ := HH.out; rw [if_pos rfl] at h_; exact h_
    have H2 := Aside0.mk h2
    clear h2 HH
    go_wp2_with ((with_reducible refine gate_dst (N := 19) rfl ?_); (try (refine gate_guard (by rfl) ?_; dsimp only)); refine Kd.R_lit (Kd.int .i64) _ 2 ?hg (N := 19) ?hd (xs := ([10, 10, 20] : List Int)) (inner := [.int .i64 10, .int .i64 10, .int .i64 20]) (ok := fun _ => True) (okp := fun _ => True) ?hr ?hp (fun _ hk => hk) trivial (Below.refl _ _) (Nat.le_refl _) (by simp) ?_; (case hd => rfl); (case hg => rfl); (case hr => first | (go_simp; done) | (go_simp; rfl)); (case hp => exact (Reps.one (show Kd.M (Kd.int .i64) _ _ _ (10) [.int .i64 (10)] from rfl) ((Reps.one (show Kd.M (Kd.int .i64) _ _ _ (10) [.int .i64 (10)] from rfl) ((Reps.one (show Kd.M (Kd.int .i64) _ _ _ (20) [.int .i64 (20)] from rfl) (Reps.none _ _))))))); intro v19 w7 ho hb hg_ hnew_; clear hg_ hnew_; have H13n := Aside0.mk (Kd.R_below H13.out hb); have H19 := Aside0.mk ho; have HBn := Aside0.mk (below_step HB.out hb); clear HB H13; have HB := HBn; have H13 := H13n; clear HBn H13n hb ho; obtain ⟨A19, c19, e19⟩ := Kd.R_slice H19.out; subst e19)
    refine (merkhetref15_Same.calls k A13 c13 y A19 c19 [10, 10, 20] r _ (Kd.R_reads' H13.out).2.2 (Kd.R_reads' H13.out).2.1 (Kd.R_reads' H19.out).2.2 (Kd.R_reads' H19.out).2.1 H2.out).mono ?_
    rintro e w8 ⟨rfl, hb⟩
    have HBn := Aside0.mk (below_step HB.out hb.below)
    clear hb HB
    go_wp2_with (fail)
    go_ret
    exact ⟨rfl, HBn.out⟩


/-! ### slices_IndexFunc_int64_int64: function 37 -/
/-- Where the first one stands that is such; -1. -/
def slices_IndexFunc_int64_int64_idx (p : Int → Bool) (l : List Int) : Int := if l.any p = true then (l.findIdx p : Int) else -1
theorem slices_IndexFunc_int64_int64_hit (p : Int → Bool) (l : List Int) (k : Nat) (hk : k < l.length) (hp : p l[k] = true) (hn : ∀ j (h : j < l.length), j < k → p l[j] = false) : slices_IndexFunc_int64_int64_idx p l = (k : Int) := by
  unfold slices_IndexFunc_int64_int64_idx
  rw [if_pos (List.any_eq_true.2 ⟨_, List.getElem_mem hk, hp⟩)]
  congr 1
  rw [List.findIdx_eq hk]
  exact ⟨hp, fun j hj => by simpa using hn j (by omega) hj⟩
theorem slices_IndexFunc_int64_int64_miss (p : Int → Bool) (l : List Int) (hn : ∀ j (h : j < l.length), p l[j] = false) : slices_IndexFunc_int64_int64_idx p l = -1 := by
  unfold slices_IndexFunc_int64_int64_idx
  rw [if_neg]
  intro h
  obtain ⟨x, hx, hp⟩ := List.any_eq_true.1 h
  obtain ⟨j, hj, rfl⟩ := List.getElem_of_mem hx
  rw [hn j hj] at hp
  exact absurd hp (by decide)
set_option maxHeartbeats 8000000 in
set_option maxRecDepth 100000 in
theorem slices_IndexFunc_int64_int64.calls (A0 : Option Addr) (c0 : Nat) (l0 : List Int) (p : Int → Bool) (g : Nat) (lb : Array Value) (eg : ∀ args w, (callFunc g args).run Try.prog w = .ok (.enter g args) w) (w : World) (hr0 : Kd.C (Kd.int .i64) w A0 l0.length l0)
    (hp : ∀ (W : World) (x : Int), x ∈ l0 → Below w.heap.size w W → Calls Try.prog g (#[(fun x : Int => (.int .i64 x : Value)) x] ++ lb) W fun e w' => e = .returned (.bool (p x)) ∧ Below w.heap.size w w') :
    Calls Try.prog 37 #[.slice A0 l0.length c0, .func (.func g) #[] lb] w fun e w' => e = .returned (.int .i64 (slices_IndexFunc_int64_int64_idx p l0)) ∧ Below w.heap.size w w' := by
  have HR0 := Aside0.mk hr0
  have HP := Aside0.mk hp
  have HB := Aside0.mk (Below.refl w.heap.size w)
  have hmax : l0.length ≤ 9223372036854775807 := Kd.C_max hr0
  clear hr0 hp
  go_enter Try.func37, Try.ntmps37
  go_wp2
  go_loopg [5, 8] l0.length (fun gg _ s8 wr => ∃ k : Nat, k ≤ l0.length ∧ l0.length - k ≤ gg ∧ s8 = .int .i64 k ∧ Aside0 (Below w.heap.size w wr) ∧ Aside0 (∀ j (h : j < l0.length), j < k → p l0[j] = false))
  case atStart => exact ⟨0, Nat.zero_le _, by omega, rfl, HB, ⟨fun j _ hj => absurd hj (Nat.not_lt_zero _)⟩⟩
  case round =>
    obtain ⟨k, hk, hg, rfl, HBr, HN⟩ := hrel
    by_cases hlt : k < l0.length
    · have hltz : (k : Int) < (l0.length : Int) := by omega
      obtain ⟨ad, e, hx0⟩ := Kd.at_int HR0.out (k : Int) (by omega) (by omega)
      cases e
      replace hx0 := (HBr.out.cell (World.block_lt_of_cell? w _ hx0)).trans hx0; simp only [Int.toNat_natCast] at hx0
      skip
      have hcall := HP.out wr l0[k] (List.getElem_mem hlt) HBr.out
      have hy : rd l0 (k : Int) = l0[k] := by first | (simp [rd, rdOf, List.getD_eq_getElem?_getD, List.getElem?_eq_getElem hlt]; done) | (show l0.getD _ _ = _; simp [List.getD_eq_getElem?_getD, List.getElem?_eq_getElem hlt])
      have HY := Aside0.mk hy
      generalize hz : l0[k] = y at hcall hy
      rw [hy] at hx0
      have HZ := Aside0.mk hz
      clear hy hz
      cases hq : p y with
      | true =>
        rw [hq] at hcall
        go_wp2_with (go_at_fn g; refine hcall.mono ?_; rintro e w' ⟨rfl, hb'⟩)
        go_ret
        refine ⟨?_, hb'⟩
        rw [slices_IndexFunc_int64_int64_hit p l0 k hlt (by rw [HZ.out]; exact hq) HN.out]
        rfl
      | false =>
        rw [hq] at hcall
        go_wp2_with (go_at_fn g; refine hcall.mono ?_; rintro e w' ⟨rfl, hb'⟩)
        go_roundg (l0.length - (k + 1))
        case measure => omega
        case rel =>
          refine ⟨k + 1, by omega, by omega, by go_num, ⟨hb'⟩, ⟨fun j h hj => ?_⟩⟩
          by_cases e : j = k
          · subst e
            rw [HZ.out]; exact hq
          · exact HN.out j h (by omega)
    · have hltz : ¬ (k : Int) < (l0.length : Int) := by omega
      have HK := Aside0.mk (show k = l0.length by omega)
      go_wp2
      go_ret
      refine ⟨?_, HBr.out⟩
      rw [slices_IndexFunc_int64_int64_miss p l0 (fun j h => HN.out j h (by rw [HK.out]; exact h))]
      rfl


/-! ### slices_ContainsFunc_int64_int64: function 26 -/
/-- At the one predicate that layer 19 hands over. -/
def slices_ContainsFunc_int64_int64.f (l0 : List Int) (a1 : Nat) : Option Bool := if a1 = 27 then some (l0.any fun c => decide (c < 0) || decide (c ≥ 1152921504606846976)) else none
theorem slices_ContainsFunc_int64_int64_pred (w W : World) (x : Int) (hb : Below w.heap.size w W) : Calls Try.prog 27 (#[.int .i64 x] ++ #[]) W fun e w' => e = .returned (.bool (decide (x < 0) || decide (x ≥ 1152921504606846976))) ∧ Below w.heap.size w w' := by
  have HB := Aside0.mk hb
  clear hb
  show Calls Try.prog 27 #[.int .i64 x] W _
  go_enter Try.func27, Try.ntmps27
  by_cases c1 : x < 0
  · have c1b := decide_eq_true c1
    rw [c1b]
    clear c1
    go_wp2
    go_ret
    exact ⟨rfl, HB.out⟩
  · have c1b := decide_eq_false c1
    rw [c1b]
    clear c1
    go_wp2
    go_ret
    exact ⟨by rw [Bool.false_or]; rfl, HB.out⟩
set_option maxHeartbeats 8000000 in
set_option maxRecDepth 100000 in
theorem slices_ContainsFunc_int64_int64.calls (A0 : Option Addr) (c0 : Nat) (l0 : List Int) (a1 : Nat) (r : Bool) (w : World) (hr0 : Kd.C (Kd.int .i64) w A0 l0.length l0) (hc0 : l0.length ≤ c0) (h : slices_ContainsFunc_int64_int64.f l0 a1 = some r) :
    Calls Try.prog 26 #[.slice A0 l0.length c0, .func (.func a1) #[] #[]] w fun e w' => e = .returned (.bool r) ∧ Below w.heap.size w w' := by
  unfold slices_ContainsFunc_int64_int64.f at h
  by_cases ha : a1 = 27
  · rw [if_pos ha] at h
    subst ha
    obtain rfl := Option.some.inj h
    have hany : decide (0 ≤ slices_IndexFunc_int64_int64_idx (fun c => decide (c < 0) || decide (c ≥ 1152921504606846976)) l0) = l0.any (fun c => decide (c < 0) || decide (c ≥ 1152921504606846976)) := by
      unfold slices_IndexFunc_int64_int64_idx
      by_cases h : l0.any (fun c => decide (c < 0) || decide (c ≥ 1152921504606846976)) = true
      · rw [if_pos h, h]; exact decide_eq_true (by omega)
      · rw [if_neg h, Bool.eq_false_iff.2 h]; rfl
    have HA := Aside0.mk hany
    have hcall := slices_IndexFunc_int64_int64.calls A0 c0 l0 (fun c => decide (c < 0) || decide (c ≥ 1152921504606846976)) 27 #[] (fun args w => enters_ (P := Try.prog) Try.func27 (by kernel_rfl) rfl args w) w hr0 (fun W x _ hb => slices_ContainsFunc_int64_int64_pred w W x hb)
    clear hany hr0 h
    go_enter Try.func26, Try.ntmps26
    go_wp2_with (go_at_call 37; refine hcall.mono ?_; rintro e w' ⟨rfl, hb'⟩)
    go_ret
    exact ⟨by first | rfl | (rw [← HA.out]; rfl), hb'⟩
  · rw [if_neg ha] at h
    exact absurd h (by simp)


end Go.Proofs.Ythlekphkibeflaa.D
