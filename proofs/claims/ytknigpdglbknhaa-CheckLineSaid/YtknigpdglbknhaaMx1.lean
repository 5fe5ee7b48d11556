-- WRITTEN FOR THIS CLAIM by wip/tools/mp.py, a program of this project that drives the kit's print; the functions that the print does not take are this project's own texts.
import Derived.Test.YtknigpdglbknhaaMx0
namespace Go.Proofs.Ytknigpdglbknhaa.M
open Go.RowKit Go.Proofs.YtknigpdglbknhaaW.PrintWords Go.Proofs.YtknigpdglbknhaaW.PrintLast Go.Proofs.YtknigpdglbknhaaW.PrintMore
attribute [local go_sem] max2_int min2_int max_two min_two max_three min_three max_four min_four   -- for this text's walks alone
set_option linter.unusedVariables false
set_option linter.unusedSimpArgs false

/-! ### check_steps: function 44 -/
def check_steps.l0 : Nat → Int → Int → Option (Int)
  | 0, _, _ => none
  | k + 1, x0, x3 => if x3 < 8 then (if (Go.bits .and .u32 x0 1) = 0 then (check_steps.l0 k (x0 / 2) (wrap64 (x3 + 1))) else (check_steps.l0 k (Go.bits .xor .u32 (x0 / 2) 3988292384) (wrap64 (x3 + 1)))) else (some x0)
def check_steps.f (k : Nat) (a0 : Int) : Option (Int) := check_steps.l0 k a0 0
theorem check_steps.mono_l : ∀ k, (∀ y0 y1, LeO (check_steps.l0 k y0 y1) (check_steps.l0 (k + 1) y0 y1))
  | 0 => fun _ _ r h => by simp [check_steps.l0] at h
  | k + 1 => by
    have ih0 := check_steps.mono_l k
    · intro y0 y1
      unfold check_steps.l0
      repeat' first
      | (with_reducible exact ih0 _ _)
      | (with_reducible exact LeO.refl _)
      | (with_reducible exact LeO.none _)
      | (with_reducible refine LeO.ite ?_ ?_)
      | (with_reducible refine LeO.bind ?_ (fun _ => ?_))
      | exact ih0 _ _
      | exact LeO.none _
      | refine LeO.ite ?_ ?_
      | refine LeO.bind ?_ (fun _ => ?_)
theorem check_steps.mono : ∀ a0 k, LeO (check_steps.f k a0) (check_steps.f (k + 1) a0) := by
  intro a0 k
  have ih0 := check_steps.mono_l k
  unfold check_steps.f
  repeat' first
      | (with_reducible exact ih0 _ _)
      | (with_reducible exact LeO.refl _)
      | (with_reducible exact LeO.none _)
      | (with_reducible refine LeO.ite ?_ ?_)
      | (with_reducible refine LeO.bind ?_ (fun _ => ?_))
      | exact ih0 _ _
      | exact LeO.none _
      | refine LeO.ite ?_ ?_
      | refine LeO.bind ?_ (fun _ => ?_)
set_option maxHeartbeats 8000000 in
set_option maxRecDepth 100000 in
theorem check_steps.calls (k : Nat) (a0 : Int) (r : Int) (w : World) (h : check_steps.f k a0 = some r) :
    Calls Try.prog 44 #[.int .u32 a0] w fun e w' => e = .returned (.int .u32 r) ∧ Drawn0 w w' := by
  have H : (check_steps.l0 k a0 0) = some r := h
  clear h
  have H' := Aside0.mk H
  clear H
  go_enter Try.func44, Try.ntmps44
  go_wp2
  go_loopg [0, 3] k (fun kq v0 v3 w' => ∃ (x0_1 : Int) (x3_1 : Int), v0 = .int .u32 x0_1 ∧ v3 = .int .i64 x3_1 ∧ Aside0 (check_steps.l0 kq x0_1 x3_1 = some r) ∧ Aside0 (kq ≤ k) ∧ Drawn0 w w')
  case atStart => exact ⟨(a0), (0), (by first | rfl | (simp; done) | (simp [*]; done)), (by first | rfl | (simp; done) | (simp [*]; done)), H', ⟨Nat.le_refl _⟩, by repeat (first | exact Drawn0.refl _ | apply Drawn0.step)⟩
  case round =>
    clear H'
    obtain ⟨x0_1, x3_1, rfl, rfl, HA, HK1, ⟨m1, rfl⟩⟩ := hrel
    cases gk with
    | zero => exact absurd HA.out (by simp [check_steps.l0])
    | succ k1 =>
      have H := HA.out
      clear HA
      simp only [check_steps.l0] at H
      by_cases c2 : x3_1 < 8
      · rw [if_pos c2] at H
        have c2b0 : decide (x3_1 < 8) = true := decide_eq_true c2
        clear c2
        by_cases c3 : (Go.bits .and .u32 x0_1 1) = 0
        · rw [if_pos c3] at H
          have c3b0 : ((Go.bits .and .u32 x0_1 1) == 0) = true := beq_iff_eq.mpr c3
          have c3b1 : ((Go.bits .and .u32 x0_1 1) != 0) = false := bne_eq_false_iff_eq.mpr c3
          clear c3
          have H' := Aside0.mk H
          clear H
          go_wp2
          go_roundg k1
          case measure => have := HK1.out; omega
          case rel => exact ⟨(x0_1 / 2), (wrap64 (x3_1 + 1)), (by first | rfl | (simp; done) | (simp [*]; done)), (by first | rfl | (simp; done) | (simp [*]; done)), H', ⟨by have := HK1.out; omega⟩, by repeat (first | exact Drawn0.refl _ | apply Drawn0.step)⟩
        · rw [if_neg c3] at H
          have c3b0 : ((Go.bits .and .u32 x0_1 1) == 0) = false := beq_eq_false_iff_ne.mpr c3
          have c3b1 : ((Go.bits .and .u32 x0_1 1) != 0) = true := bne_iff_ne.mpr c3
          have H' := Aside0.mk H
          clear H
          go_wp2
          go_roundg k1
          case measure => have := HK1.out; omega
          case rel => exact ⟨(Go.bits .xor .u32 (x0_1 / 2) 3988292384), (wrap64 (x3_1 + 1)), (by first | rfl | (simp; done) | (simp [*]; done)), (by first | rfl | (simp; done) | (simp [*]; done)), H', ⟨by have := HK1.out; omega⟩, by repeat (first | exact Drawn0.refl _ | apply Drawn0.step)⟩
      · rw [if_neg c2] at H
        have c2b0 : decide (x3_1 < 8) = false := decide_eq_false c2
        clear c2
        obtain rfl := Option.some.inj H
        go_wp2
        go_ret
        exact ⟨by first | rfl | (simp; done) | (simp [*]; done), by repeat (first | exact Drawn0.refl _ | apply Drawn0.step)⟩

/-! ### check_table: function 37 -/
theorem check_steps_some (c : Int) : ∃ r, check_steps.f 9 c = some r := by
  have h : ∀ d : Nat, d ≤ 8 → ∀ c : Int, ∃ r, check_steps.l0 (d + 1) c (8 - (d : Int)) = some r := by
    intro d
    induction d with
    | zero => intro _ c; exact ⟨c, by simp [check_steps.l0]⟩
    | succ d ih =>
      intro hd c
      have e : wrap64 (8 - ((d + 1 : Nat) : Int) + 1) = 8 - (d : Int) := by unfold wrap64; omega
      by_cases c1 : (Go.bits .and .u32 c 1) = 0
      · obtain ⟨r, hr⟩ := ih (by omega) (c / 2)
        refine ⟨r, ?_⟩
        simp only [check_steps.l0] at hr ⊢
        rw [if_pos (by omega), if_pos c1, e]; exact hr
      · obtain ⟨r, hr⟩ := ih (by omega) (Go.bits .xor .u32 (c / 2) 3988292384)
        refine ⟨r, ?_⟩
        simp only [check_steps.l0] at hr ⊢
        rw [if_pos (by omega), if_neg c1, e]; exact hr
  exact h 8 (by omega) c
def stepTab (i : Int) : Int := (check_steps.f 9 i).getD 0
theorem check_steps_tab (c : Int) : check_steps.f 9 c = some (stepTab c) := by
  obtain ⟨r, h⟩ := check_steps_some c
  simp [stepTab, h]
def tabUpto (n : Nat) : Array Value := ((List.range 256).map fun j : Nat => Value.int .u32 (if j < n then stepTab j else 0)).toArray
def tabZero : Array Value := (List.replicate 256 (Value.int .u32 0)).toArray
set_option maxRecDepth 100000 in
theorem tabUpto_zero : tabUpto 0 = tabZero := by
  unfold tabUpto tabZero
  congr 1
theorem tabUpto_size (n : Nat) : (tabUpto n).size = 256 := by simp [tabUpto]
theorem tabUpto_set (n : Nat) (h : n < 256) : (tabUpto n).setIfInBounds n (.int .u32 (stepTab n)) = tabUpto (n + 1) := by
  apply Array.ext
  · simp [tabUpto]
  · intro i h1 h2
    simp [tabUpto] at h2
    rw [Array.getElem_setIfInBounds (by simpa [tabUpto] using h2)]
    simp only [tabUpto, List.getElem_toArray, List.getElem_map, List.getElem_range]
    by_cases e : n = i
    · subst e; simp
    · simp only [e, if_false]
      by_cases e2 : i < n
      · rw [if_pos e2, if_pos (by omega)]
      · rw [if_neg e2, if_neg (by omega)]

set_option maxHeartbeats 8000000 in
set_option maxRecDepth 100000 in
theorem check_table_calls (w : World) : Calls Try.prog 37 #[] w fun e w' => e = .returned (.agg (tabUpto 256)) ∧ Below w.heap.size w w' := by
  have hz : ∀ w, Sem.run Try.prog (zeroValue 68) w = .ok (.agg tabZero) w := fun _ => by kernel_rfl
  have HB := Aside0.mk (Below.refl w.heap.size w)
  go_enter Try.func37, Try.ntmps37
  go_wp2
  go_loopw [3] (fun i wr => ∃ k : Nat, k ≤ 256 ∧ i = .int .i64 k ∧ Aside0 (Below w.heap.size w wr) ∧ Aside0 (wr.heap[w.heap.size]? = some (.cells tabZero 68 (0, 0))) ∧ Aside0 (wr.heap[w.heap.size + 1]? = some (.cells (tabUpto k) 68 (0, 0)))) (fun i _ => 256 - (intOf i).toNat)
  case atStart => exact ⟨0, by omega, rfl, ⟨below_alloc (below_alloc HB.out _) _⟩, ⟨heap_alloc2_old _ _ _⟩, ⟨by rw [tabUpto_zero]; exact heap_alloc2_new _ _ _⟩⟩
  case round =>
    obtain ⟨k, hk, rfl, HBr, h0, h1⟩ := hrel
    by_cases hlt : k < 256
    · have hfz : wr.frozen? ⟨w.heap.size + 1, k, none⟩ = false := blk_frozen h1.out k
      obtain ⟨v, hcell⟩ : ∃ v, wr.cell? ⟨w.heap.size + 1, k, none⟩ = some v := ⟨_, by rw [blk_cell h1.out k]; exact Array.getElem?_eq_getElem (by rw [tabUpto_size]; exact hlt)⟩
      go_wp2_with (go_at_call 44; refine (check_steps.calls 9 _ _ _ (check_steps_tab _)).mono ?_; rintro e w' ⟨rfl, ⟨n, rfl⟩⟩)
      go_roundw
      case measure => simp [intOf]; omega
      case rel => exact ⟨k + 1, by omega, by go_num, ⟨below_set (pw_below_drewN HBr.out n) (Nat.le_succ _)⟩, ⟨blk_far (blk_drewN h0.out n) (by simp) _⟩, ⟨blk_put (blk_drewN h1.out n) k _ (tabUpto_set k hlt)⟩⟩
    · obtain rfl : k = 256 := by omega
      go_wp2_with first
        | (refine wpList_load_row rfl 68 _ rfl (w.heap.size + 1) rfl 68 _ (0, 0) _ h1.out Try.underlying68 rfl (by kernel_rfl) ?_)
        | (refine wpList_store_row rfl 68 _ _ rfl w.heap.size _ rfl rfl 68 _ h0.out (by kernel_rfl) (by kernel_rfl) (by kernel_rfl) ?_)
      exact bodyPost_ret (v := .agg (tabUpto 256)) (results_cell_row (P := Try.prog) rfl _ _ w.heap.size 68 _ (0, 0) _ rfl (setRow_heap _ _ _ _ _ _ h0.out) Try.underlying68 rfl (by kernel_rfl)) rfl ⟨rfl, below_setRow HBr.out (Nat.le_refl _) _⟩



/-! ### check_More: function 17 -/
def check_More.f (a0 : Int) (l1 : List Int) : Option Int := some (Go.bits .xor .u32 4294967295 (l1.foldl (fun c x => Go.bits .xor .u32 (c / 256) (stepTab (Go.bits .xor .u8 (c % 256) x))) (Go.bits .xor .u32 4294967295 a0)))
set_option maxHeartbeats 8000000 in
set_option maxRecDepth 100000 in
theorem check_More.calls (a0 : Int) (A1 : Option Addr) (c1 : Nat) (l1 : List Int) (r : Int) (w : World) (hr1 : Kd.C (Kd.int .u8) w A1 l1.length l1) (hc1 : l1.length ≤ c1) (h : check_More.f a0 l1 = some r) :
    Calls Try.prog 17 #[.int .u32 a0, .slice A1 l1.length c1] w fun e w' => e = .returned (.int .u32 r) ∧ Below w.heap.size w w' := by
  have hz : ∀ w, Sem.run Try.prog (zeroValue 68) w = .ok (.agg tabZero) w := fun _ => by kernel_rfl
  have HR := Aside0.mk hr1
  have HRES := Aside0.mk (Option.some.inj h)
  clear hr1 h
  have HB := Aside0.mk (Below.refl w.heap.size w)
  have hmax : l1.length ≤ 9223372036854775807 := Kd.C_max HR.out
  go_enter Try.func17, Try.ntmps17
  go_wp2_with first
    | (go_at_call 37; refine (check_table_calls _).mono ?_; rintro e w1 ⟨rfl, hb⟩; have HB1 := Aside0.mk hb; clear hb)
    | (refine wpList_store_row rfl 68 _ _ rfl _ _ rfl rfl 68 _ (heap_alloc_new _ _) (by kernel_rfl) (by kernel_rfl) (by kernel_rfl) ?_; rw [World.setRow_alloc_new])
  have hnew : (w1.alloc (.cells (tabUpto 256) 68)).heap[w1.heap.size]? = some (.cells (tabUpto 256) 68 (0, 0)) := heap_alloc_new _ _
  have HCt : Aside0 (∀ j : Int, 0 ≤ j → j ≤ 255 → (w1.alloc (.cells (tabUpto 256) 68)).cell? ⟨w1.heap.size, j.toNat, none⟩ = some (.int .u32 (stepTab j))) := ⟨fun j h0 h1 => by
    rw [blk_cell hnew, Array.getElem?_eq_getElem (by rw [tabUpto_size]; omega)]
    obtain ⟨n, rfl⟩ := Int.eq_ofNat_of_zero_le h0
    simp only [tabUpto, List.getElem_toArray, List.getElem_map, List.getElem_range, Int.toNat_natCast]
    rw [if_pos (by omega)]⟩
  have HB2 := Aside0.mk (below_alloc HB1.out (.cells (tabUpto 256) 68))
  clear hnew HB1
  obtain ⟨w2, hw2⟩ : ∃ w2 : World, w2 = w1.alloc (.cells (tabUpto 256) 68) := ⟨_, rfl⟩
  rw [← hw2] at HCt HB2
  rw [← hw2]
  clear hw2
  go_loop [6, 14] (fun c i => ∃ k : Nat, k ≤ l1.length ∧ i = .int .i64 k ∧ c = .int .u32 ((l1.take k).foldl (fun c x => Go.bits .xor .u32 (c / 256) (stepTab (Go.bits .xor .u8 (c % 256) x))) (Go.bits .xor .u32 4294967295 a0))) (fun _ i => l1.length - (intOf i).toNat)
  case atStart => exact ⟨0, by omega, rfl, rfl⟩
  case round =>
    obtain ⟨k, hk, rfl, rfl⟩ := hrel
    by_cases hlt : k < l1.length
    · generalize hc : (l1.take k).foldl (fun c x => Go.bits .xor .u32 (c / 256) (stepTab (Go.bits .xor .u8 (c % 256) x))) (Go.bits .xor .u32 4294967295 a0) = c
      obtain ⟨ad, e, hx⟩ := Kd.at_int HR.out (k : Int) (by omega) (by omega)
      cases e
      replace hx := (HB2.out.cell (World.block_lt_of_cell? w _ hx)).trans hx
      rw [Int.toNat_natCast] at hx
      obtain ⟨x, hxd⟩ : ∃ x, rd l1 k = x := ⟨_, rfl⟩
      rw [hxd] at hx
      obtain ⟨j, hj⟩ : ∃ j, Go.bits .xor .u8 (c % 256) x = j := ⟨_, rfl⟩
      have hj0 : 0 ≤ j := by rw [← hj]; exact bits_lo_u8 _ _ _
      have hj1 : j ≤ 255 := by rw [← hj]; exact bits_hi_u8 _ _ _
      have hj2 : j < 256 := by omega
      have hcj := HCt.out j hj0 hj1
      have HS := Aside0.mk (show (l1.take (k + 1)).foldl (fun c x => Go.bits .xor .u32 (c / 256) (stepTab (Go.bits .xor .u8 (c % 256) x))) (Go.bits .xor .u32 4294967295 a0) = Go.bits .xor .u32 (c / 256) (stepTab j) from by
        rw [List.take_succ_eq_append_getElem hlt, List.foldl_append, hc]
        simp only [List.foldl_cons, List.foldl_nil]
        have : l1[k] = x := by rw [← hxd]; simp [rd, List.getD_eq_getElem?_getD, List.getElem?_eq_getElem hlt]
        rw [this, hj])
      clear hc hxd
      go_wp2
      go_round
      case measure => simp [intOf]; omega
      case rel => exact ⟨k + 1, by omega, by go_num, by rw [HS.out]⟩
    · obtain rfl := HRES.out
      have hK : Aside0 (k = l1.length) := ⟨by omega⟩
      go_wp2
      go_ret
      exact ⟨by rw [hK.out, List.take_length]; rfl, HB2.out⟩


/-! ### check_Sum: function 15 -/
def check_Sum.f (l0 : List Int) : Option (Int) := (check_More.f 0 l0).bind fun t101 => (some t101)
set_option maxHeartbeats 8000000 in
set_option maxRecDepth 100000 in
theorem check_Sum.calls (A0 : Option Addr) (c0 : Nat) (l0 : List Int) (r : Int) (w : World) (hr0 : Kd.C (Kd.int .u8) w A0 l0.length l0) (hc0 : l0.length ≤ c0) (h : check_Sum.f l0 = some r) :
    Calls Try.prog 15 #[.slice A0 l0.length c0] w fun e w' => e = .returned (.int .u32 r) ∧ Below w.heap.size w w' := by
  have HR0 := Aside0.mk hr0
  have HC0 := Aside0.mk hc0
  clear hr0 hc0
  have HB := Aside0.mk (Below.refl w.heap.size w)
  have H : ((check_More.f 0 l0).bind fun t101 => (some t101)) = some r := h
  clear h
  replace H := Option.bind_eq_some_iff.mp H
  obtain ⟨t101, A20, H⟩ := H
  replace H : (some t101) = some r := H
  have A2 := Aside0.mk A20
  clear A20
  obtain rfl := Option.some.inj H
  go_enter Try.func15, Try.ntmps15
  go_wp2_with (first | ((with_reducible refine gate_callee (f := 17) rfl ?_); refine goesL_ (some 4) rfl rfl Try.func17 (by kernel_rfl) rfl #[.int .u32 0, .slice A0 l0.length c0] rfl (by (try simp only [List.map_toArray, List.map_cons, List.map_nil]); first | done | rfl | (simp only [List.length_drop, List.length_take]; rfl)) ?_; (with_reducible refine (check_More.calls 0 _ _ l0 t101 _ ?side1 ?side2 A2.out).mono ?_); (case side1 => repeat (first | exact HR0.out | (with_reducible refine Kd.C_alloc ?_ _) | (with_reducible refine Kd.C_drewN ?_ _) | (with_reducible refine Kd.C_drew ?_))); (case side2 => exact HC0.out); rintro e w3 ⟨rfl, hb⟩; refine ⟨_, rfl, ?_⟩; have n0_ := Aside0.mk (below_step (by repeat (first | (with_reducible first | exact HB.out | apply below_alloc | apply pw_below_drewN | apply below_drew1) | exact HB.out)) hb); clear HB; have HB := n0_; clear n0_; (try clear hb); (try clear hb2); (try clear hk); (try clear hi)))
  go_ret
  exact ⟨by first | rfl | (simp [errW_none, errW_some] <;> rfl) | (simp [*, errW_none, errW_some] <;> rfl), by repeat (first | (with_reducible first | exact HB.out | apply below_alloc | apply pw_below_drewN | apply below_drew1) | exact HB.out)⟩

/-! ### merkhetlaw03_fixed: function 14 -/
def merkhetlaw03_fixed.f : Option Bool := (check_Sum.f [49, 50, 51, 52, 53, 54, 55, 56, 57]).bind fun t105 => if t105 = 3421780262 then (check_Sum.f []).bind fun t106 => some (t106 == 0) else some false
set_option maxHeartbeats 8000000 in
set_option maxRecDepth 100000 in
theorem merkhetlaw03_fixed.calls (r : Bool) (w : World) (h : merkhetlaw03_fixed.f = some r) : Calls Try.prog 14 #[] w fun e w' => e = .returned (.bool r) ∧ Below w.heap.size w w' := by
  have kc := fun (w : World) (C : Array Value) (n c : Nat) => Lib.run_convert_bytes_const (P := Try.prog) w 22 5 C n c Try.underlying22 Try.underlying5
  have HB := Aside0.mk (Below.refl w.heap.size w)
  obtain ⟨t1, A1, h1⟩ := Option.bind_eq_some_iff.mp h
  have A1 := Aside0.mk A1
  clear h
  by_cases c1 : t1 = 3421780262
  · rw [if_pos c1] at h1
    obtain ⟨t2, A2, h2⟩ := Option.bind_eq_some_iff.mp h1
    have A2 := Aside0.mk A2
    obtain rfl := Option.some.inj h2
    have c1b0 : (t1 == 3421780262) = true := beq_iff_eq.mpr c1
    clear c1 h1 h2
    go_enter Try.func14, Try.ntmps14
    go_wp2_with fail
    (refine (check_Sum.calls (some ⟨w.heap.size, 0, none⟩) 9 [49, 50, 51, 52, 53, 54, 55, 56, 57] t1 _ (H.C_new .u8 w _ _ _ _ (by rfl) (by decide)) (by decide) A1.out).mono ?_); rintro e w1 ⟨rfl, hb⟩
    have HB1 := Aside0.mk (below_step (H.below_alloc1 w _) hb)
    clear hb
    go_wp2_with fail
    (refine (check_Sum.calls none 0 [] t2 _ (Kd.C_nil _ _) (by decide) A2.out).mono ?_); rintro e w2 ⟨rfl, hb⟩
    have HB2 := Aside0.mk (below_step HB1.out hb)
    clear hb
    go_wp2
    go_ret
    exact ⟨rfl, HB2.out⟩
  · rw [if_neg c1] at h1
    obtain rfl := Option.some.inj h1
    have c1b0 : (t1 == 3421780262) = false := beq_eq_false_iff_ne.mpr c1
    clear c1 h1
    go_enter Try.func14, Try.ntmps14
    go_wp2_with fail
    (refine (check_Sum.calls (some ⟨w.heap.size, 0, none⟩) 9 [49, 50, 51, 52, 53, 54, 55, 56, 57] t1 _ (H.C_new .u8 w _ _ _ _ (by rfl) (by decide)) (by decide) A1.out).mono ?_); rintro e w1 ⟨rfl, hb⟩
    have HB1 := Aside0.mk (below_step (H.below_alloc1 w _) hb)
    clear hb
    go_wp2
    go_ret
    exact ⟨rfl, HB1.out⟩


/-! ### merkhetref03_More: function 18 -/
mutual
def merkhetref03_More.l0 : Nat → ByteArray → Int → Int → Option (Int)
  | 0, _, _, _ => none
  | k + 1, x1, x5, x6 => if x6 < (x1.size : Int) then (if 0 ≤ x6 then (merkhetref03_More.l1 k x1 x5 x6 ((bt x1 x6) % 4294967296) 0) else (none)) else (some ((4294967295 - x5) % 4294967296))
def merkhetref03_More.l1 : Nat → ByteArray → Int → Int → Int → Int → Option (Int)
  | 0, _, _, _, _, _ => none
  | k + 1, x1, x5, x6, x7, x8 => if x8 < 8 then (if (Int.tmod x5 2) = (Int.tmod x7 2) then (merkhetref03_More.l1 k x1 ((Int.tdiv x5 2) % 4294967296) x6 ((Int.tdiv x7 2) % 4294967296) (wrap64 (x8 + 1))) else (merkhetref03_More.l1 k x1 (Go.bits .xor .u32 ((Int.tdiv x5 2) % 4294967296) 3988292384) x6 ((Int.tdiv x7 2) % 4294967296) (wrap64 (x8 + 1)))) else (merkhetref03_More.l0 k x1 x5 (wrap64 (x6 + 1)))
end
def merkhetref03_More.f (k : Nat) (a0 : Int) (a1 : ByteArray) : Option (Int) := merkhetref03_More.l0 k a1 ((4294967295 - a0) % 4294967296) 0
theorem merkhetref03_More.mono_l : ∀ k, (∀ y0 y1 y2, LeO (merkhetref03_More.l0 k y0 y1 y2) (merkhetref03_More.l0 (k + 1) y0 y1 y2)) ∧ (∀ y0 y1 y2 y3 y4, LeO (merkhetref03_More.l1 k y0 y1 y2 y3 y4) (merkhetref03_More.l1 (k + 1) y0 y1 y2 y3 y4))
  | 0 => ⟨fun _ _ _ r h => by simp [merkhetref03_More.l0] at h, fun _ _ _ _ _ r h => by simp [merkhetref03_More.l1] at h⟩
  | k + 1 => by
    obtain ⟨ih0, ih1⟩ := merkhetref03_More.mono_l k
    refine ⟨?_, ?_⟩
    · intro y0 y1 y2
      unfold merkhetref03_More.l0
      repeat' first
      | (with_reducible exact ih0 _ _ _)
      | (with_reducible exact ih1 _ _ _ _ _)
      | (with_reducible exact LeO.refl _)
      | (with_reducible exact LeO.none _)
      | (with_reducible refine LeO.ite ?_ ?_)
      | (with_reducible refine LeO.bind ?_ (fun _ => ?_))
      | exact ih0 _ _ _
      | exact ih1 _ _ _ _ _
      | exact LeO.none _
      | refine LeO.ite ?_ ?_
      | refine LeO.bind ?_ (fun _ => ?_)
    · intro y0 y1 y2 y3 y4
      unfold merkhetref03_More.l1
      repeat' first
      | (with_reducible exact ih0 _ _ _)
      | (with_reducible exact ih1 _ _ _ _ _)
      | (with_reducible exact LeO.refl _)
      | (with_reducible exact LeO.none _)
      | (with_reducible refine LeO.ite ?_ ?_)
      | (with_reducible refine LeO.bind ?_ (fun _ => ?_))
      | exact ih0 _ _ _
      | exact ih1 _ _ _ _ _
      | exact LeO.none _
      | refine LeO.ite ?_ ?_
      | refine LeO.bind ?_ (fun _ => ?_)
theorem merkhetref03_More.mono : ∀ a0 a1 k, LeO (merkhetref03_More.f k a0 a1) (merkhetref03_More.f (k + 1) a0 a1) := by
  intro a0 a1 k
  obtain ⟨ih0, ih1⟩ := merkhetref03_More.mono_l k
  unfold merkhetref03_More.f
  repeat' first
      | (with_reducible exact ih0 _ _ _)
      | (with_reducible exact ih1 _ _ _ _ _)
      | (with_reducible exact LeO.refl _)
      | (with_reducible exact LeO.none _)
      | (with_reducible refine LeO.ite ?_ ?_)
      | (with_reducible refine LeO.bind ?_ (fun _ => ?_))
      | exact ih0 _ _ _
      | exact ih1 _ _ _ _ _
      | exact LeO.none _
      | refine LeO.ite ?_ ?_
      | refine LeO.bind ?_ (fun _ => ?_)
set_option maxHeartbeats 8000000 in
set_option maxRecDepth 100000 in
theorem merkhetref03_More.calls (k : Nat) (a0 : Int) (a1 : ByteArray) (r : Int) (w : World) (h : merkhetref03_More.f k a0 a1 = some r) :
    Calls Try.prog 18 #[.int .u32 a0, .string a1] w fun e w' => e = .returned (.int .u32 r) ∧ Drawn0 w w' := by
  have H : (merkhetref03_More.l0 k a1 ((4294967295 - a0) % 4294967296) 0) = some r := h
  clear h
  have H' := Aside0.mk H
  clear H
  go_enter Try.func18, Try.ntmps18
  go_wp2
  go_loopg [5, 6] k (fun kq v5 v6 w' => ∃ (x5_1 : Int) (x6_1 : Int), v5 = .int .u32 x5_1 ∧ v6 = .int .i64 x6_1 ∧ Aside0 (merkhetref03_More.l0 kq a1 x5_1 x6_1 = some r) ∧ Aside0 (kq ≤ k) ∧ Drawn0 w w')
  case atStart => exact ⟨((4294967295 - a0) % 4294967296), (0), (by first | rfl | (simp; done) | (simp [*]; done)), (by first | rfl | (simp; done) | (simp [*]; done)), H', ⟨Nat.le_refl _⟩, by repeat (first | exact Drawn0.refl _ | apply Drawn0.step)⟩
  case round =>
    clear H'
    try clear c1
    try clear p2
    obtain ⟨x5_1, x6_1, rfl, rfl, HA, HK1, ⟨m1, rfl⟩⟩ := hrel
    cases gk with
    | zero => exact absurd HA.out (by simp [merkhetref03_More.l0])
    | succ k1 =>
      have H := HA.out
      clear HA
      simp only [merkhetref03_More.l0] at H
      by_cases c3 : x6_1 < (a1.size : Int)
      · rw [if_pos c3] at H
        have c3b0 : decide (x6_1 < (a1.size : Int)) = true := decide_eq_true c3
        clear c3
        by_cases c4 : 0 ≤ x6_1
        · rw [if_pos c4] at H
          have c4b0 : decide (0 ≤ x6_1) = true := decide_eq_true c4
          clear c4
          have H' := Aside0.mk H
          clear H
          have p5 : 0 ≤ (x6_1 : Int) := of_decide_eq_true (by first | (with_reducible assumption) | assumption)
          have q5 : x6_1 < (a1.size : Int) := of_decide_eq_true (by first | (with_reducible assumption) | assumption)
          have hx5 := bt_at a1 x6_1
          replace p5 := eq_true p5
          replace q5 := eq_true q5
          go_wp2
          go_loopg [5, 7, 8] k1 (fun kq v5 v7 v8 w' => ∃ (x5_2 : Int) (x7_2 : Int) (x8_2 : Int), v5 = .int .u32 x5_2 ∧ v7 = .int .u32 x7_2 ∧ v8 = .int .i64 x8_2 ∧ Aside0 (merkhetref03_More.l1 kq a1 x5_2 x6_1 x7_2 x8_2 = some r) ∧ Aside0 (kq ≤ k1) ∧ Drawn0 w w')
          case atStart => exact ⟨(x5_1), ((bt a1 x6_1) % 4294967296), (0), (by first | rfl | (simp; done) | (simp [*]; done)), (by first | rfl | (simp; done) | (simp [*]; done)), (by first | rfl | (simp; done) | (simp [*]; done)), H', ⟨Nat.le_refl _⟩, by repeat (first | exact Drawn0.refl _ | apply Drawn0.step)⟩
          case round =>
            clear H'
            try clear c1
            try clear p2
            try clear c3
            try clear c3b0
            try clear c4
            try clear c4b0
            try clear p5
            try clear q5
            try clear hx5
            try clear p2
            try clear p5
            try clear q5
            obtain ⟨x5_2, x7_2, x8_2, rfl, rfl, rfl, HA, HK2, ⟨m2, rfl⟩⟩ := hrel
            cases gk with
            | zero => exact absurd HA.out (by simp [merkhetref03_More.l1])
            | succ k2 =>
              have H := HA.out
              clear HA
              simp only [merkhetref03_More.l1] at H
              by_cases c6 : x8_2 < 8
              · rw [if_pos c6] at H
                have c6b0 : decide (x8_2 < 8) = true := decide_eq_true c6
                clear c6
                by_cases c7 : (Int.tmod x5_2 2) = (Int.tmod x7_2 2)
                · rw [if_pos c7] at H
                  have c7b0 : ((Int.tmod x5_2 2) == (Int.tmod x7_2 2)) = true := beq_iff_eq.mpr c7
                  have c7b1 : ((Int.tmod x5_2 2) != (Int.tmod x7_2 2)) = false := bne_eq_false_iff_eq.mpr c7
                  clear c7
                  have H' := Aside0.mk H
                  clear H
                  go_wp2
                  go_roundg k2
                  case measure => have := HK1.out; have := HK2.out; omega
                  case rel => exact ⟨((Int.tdiv x5_2 2) % 4294967296), ((Int.tdiv x7_2 2) % 4294967296), (wrap64 (x8_2 + 1)), (by first | rfl | (simp; done) | (simp [*]; done)), (by first | rfl | (simp; done) | (simp [*]; done)), (by first | rfl | (simp; done) | (simp [*]; done)), H', ⟨by have := HK1.out; have := HK2.out; omega⟩, by repeat (first | exact Drawn0.refl _ | apply Drawn0.step)⟩
                · rw [if_neg c7] at H
                  have c7b0 : ((Int.tmod x5_2 2) == (Int.tmod x7_2 2)) = false := beq_eq_false_iff_ne.mpr c7
                  have c7b1 : ((Int.tmod x5_2 2) != (Int.tmod x7_2 2)) = true := bne_iff_ne.mpr c7
                  have H' := Aside0.mk H
                  clear H
                  go_wp2
                  go_roundg k2
                  case measure => have := HK1.out; have := HK2.out; omega
                  case rel => exact ⟨(Go.bits .xor .u32 ((Int.tdiv x5_2 2) % 4294967296) 3988292384), ((Int.tdiv x7_2 2) % 4294967296), (wrap64 (x8_2 + 1)), (by first | rfl | (simp; done) | (simp [*]; done)), (by first | rfl | (simp; done) | (simp [*]; done)), (by first | rfl | (simp; done) | (simp [*]; done)), H', ⟨by have := HK1.out; have := HK2.out; omega⟩, by repeat (first | exact Drawn0.refl _ | apply Drawn0.step)⟩
              · rw [if_neg c6] at H
                have c6b0 : decide (x8_2 < 8) = false := decide_eq_false c6
                clear c6
                have H' := Aside0.mk H
                clear H
                go_wp2
                go_roundg k2
                case measure => have := HK1.out; have := HK2.out; omega
                case rel => exact ⟨(x5_2), (wrap64 (x6_1 + 1)), (by first | rfl | (simp; done) | (simp [*]; done)), (by first | rfl | (simp; done) | (simp [*]; done)), H', ⟨by have := HK1.out; have := HK2.out; omega⟩, by repeat (first | exact Drawn0.refl _ | apply Drawn0.step)⟩
        · rw [if_neg c4] at H
          exact absurd H (by simp)
      · rw [if_neg c3] at H
        have c3b0 : decide (x6_1 < (a1.size : Int)) = false := decide_eq_false c3
        clear c3
        obtain rfl := Option.some.inj H
        go_wp2
        go_ret
        exact ⟨by first | rfl | (simp; done) | (simp [*]; done), by repeat (first | exact Drawn0.refl _ | apply Drawn0.step)⟩

/-! ### merkhetref03_Sum: function 16 -/
def merkhetref03_Sum.f (k : Nat) (a0 : ByteArray) : Option (Int) := (merkhetref03_More.f k 0 a0).bind fun t102 => (some t102)
theorem merkhetref03_Sum.mono : ∀ a0 k, LeO (merkhetref03_Sum.f k a0) (merkhetref03_Sum.f (k + 1) a0) := by
  intro a0 k
  unfold merkhetref03_Sum.f
  repeat' first
      | (with_reducible exact merkhetref03_More.mono _ _ _)
      | (with_reducible exact LeO.refl _)
      | (with_reducible exact LeO.none _)
      | (with_reducible refine LeO.ite ?_ ?_)
      | (with_reducible refine LeO.bind ?_ (fun _ => ?_))
      | exact merkhetref03_More.mono _ _ _
      | exact LeO.none _
      | refine LeO.ite ?_ ?_
      | refine LeO.bind ?_ (fun _ => ?_)
set_option maxHeartbeats 8000000 in
set_option maxRecDepth 100000 in
theorem merkhetref03_Sum.calls (k : Nat) (a0 : ByteArray) (r : Int) (w : World) (h : merkhetref03_Sum.f k a0 = some r) :
    Calls Try.prog 16 #[.string a0] w fun e w' => e = .returned (.int .u32 r) ∧ Drawn0 w w' := by
  have H : ((merkhetref03_More.f k 0 a0).bind fun t102 => (some t102)) = some r := h
  clear h
  replace H := Option.bind_eq_some_iff.mp H
  obtain ⟨t102, A20, H⟩ := H
  replace H : (some t102) = some r := H
  have A2 := Aside0.mk A20
  clear A20
  obtain rfl := Option.some.inj H
  go_enter Try.func16, Try.ntmps16
  go_wp2_with (first | ((with_reducible refine gate_callee (f := 18) rfl ?_); refine goesL_ (some 4) rfl rfl Try.func18 (by kernel_rfl) rfl #[.int .u32 0, .string a0] rfl (by (try simp only [List.map_toArray, List.map_cons, List.map_nil]); first | done | rfl | (simp only [List.length_drop, List.length_take]; rfl)) ?_; (with_reducible refine (merkhetref03_More.calls k 0 a0 t102 _ A2.out).mono ?_); rintro e w' ⟨rfl, ⟨nd, rfl⟩⟩; refine ⟨_, rfl, ?_⟩))
  go_ret
  exact ⟨by first | rfl | (simp; done) | (simp [*]; done), by repeat (first | exact Drawn0.refl _ | apply Drawn0.step)⟩

/-! ### merkhetlaw03_CheckSums: function 3 -/
def merkhetlaw03_CheckSums.f (k : Nat) (l0 : List Int) (a1 : Int) : Option (Bool) := if (l0.length : Int) > 2000 then ((merkhetlaw03_fixed.f).bind fun t103 => (some t103)) else ((merkhetlaw03_fixed.f).bind fun t104 => (if t104 = true then ((check_Sum.f l0).bind fun t105 => ((merkhetref03_Sum.f k (strOfNums l0)).bind fun t106 => (if t105 = t106 then ((check_More.f a1 l0).bind fun t107 => ((merkhetref03_More.f k a1 (strOfNums l0)).bind fun t108 => (if t107 = t108 then (some ((strOfNums l0).toList == (strOfNums l0).toList)) else (some false)))) else (some false)))) else (some false)))
theorem merkhetlaw03_CheckSums.mono : ∀ a0 a1 k, LeO (merkhetlaw03_CheckSums.f k a0 a1) (merkhetlaw03_CheckSums.f (k + 1) a0 a1) := by
  intro a0 a1 k
  unfold merkhetlaw03_CheckSums.f
  repeat' first
      | (with_reducible exact merkhetref03_More.mono _ _ _)
      | (with_reducible exact merkhetref03_Sum.mono _ _)
      | (with_reducible exact LeO.refl _)
      | (with_reducible exact LeO.none _)
      | (with_reducible refine LeO.ite ?_ ?_)
      | (with_reducible refine LeO.bind ?_ (fun _ => ?_))
      | exact merkhetref03_More.mono _ _ _
      | exact merkhetref03_Sum.mono _ _
      | exact LeO.none _
      | refine LeO.ite ?_ ?_
      | refine LeO.bind ?_ (fun _ => ?_)
set_option maxHeartbeats 8000000 in
set_option maxRecDepth 100000 in
theorem merkhetlaw03_CheckSums.calls (k : Nat) (A0 : Option Addr) (c0 : Nat) (l0 : List Int) (a1 : Int) (r : Bool) (w : World) (hr0 : Kd.C (Kd.int .u8) w A0 l0.length l0) (hc0 : l0.length ≤ c0) (h : merkhetlaw03_CheckSums.f k l0 a1 = some r) :
    Calls Try.prog 3 #[.slice A0 l0.length c0, .int .u32 a1] w fun e w' => e = .returned (.bool r) ∧ Below w.heap.size w w' := by
  have HR0 := Aside0.mk hr0
  have HC0 := Aside0.mk hc0
  clear hr0 hc0
  have HB := Aside0.mk (Below.refl w.heap.size w)
  have H : (if (l0.length : Int) > 2000 then ((merkhetlaw03_fixed.f).bind fun t103 => (some t103)) else ((merkhetlaw03_fixed.f).bind fun t104 => (if t104 = true then ((check_Sum.f l0).bind fun t105 => ((merkhetref03_Sum.f k (strOfNums l0)).bind fun t106 => (if t105 = t106 then ((check_More.f a1 l0).bind fun t107 => ((merkhetref03_More.f k a1 (strOfNums l0)).bind fun t108 => (if t107 = t108 then (some ((strOfNums l0).toList == (strOfNums l0).toList)) else (some false)))) else (some false)))) else (some false)))) = some r := h
  clear h
  by_cases c3 : (l0.length : Int) > 2000
  · rw [if_pos c3] at H
    have c3b0 : decide (2000 < (l0.length : Int)) = true := decide_eq_true c3
    have c3b1 : decide (2000 < l0.length) = true := decide_eq_true (by omega)
    clear c3
    replace H := Option.bind_eq_some_iff.mp H
    obtain ⟨t103, A40, H⟩ := H
    replace H : (some t103) = some r := H
    have A4 := Aside0.mk A40
    clear A40
    obtain rfl := Option.some.inj H
    go_enter Try.func3, Try.ntmps3
    go_wp2_with (first | ((with_reducible refine gate_callee (f := 14) rfl ?_); refine goesL_ (some 9) rfl rfl Try.func14 (by kernel_rfl) rfl #[] rfl (by (try simp only [List.map_toArray, List.map_cons, List.map_nil]); first | done | rfl | (simp only [List.length_drop, List.length_take]; rfl)) ?_; (with_reducible refine (merkhetlaw03_fixed.calls  t103 _ A4.out).mono ?_); rintro e w5 ⟨rfl, hb⟩; refine ⟨_, rfl, ?_⟩; have n0_ := Aside0.mk (below_step (by repeat (first | (with_reducible first | exact HB.out | apply below_alloc | apply pw_below_drewN | apply below_drew1) | exact HB.out)) hb); clear HB; have HB := n0_; clear n0_; (try clear hb); (try clear hb2); (try clear hk); (try clear hi)))
    go_ret
    exact ⟨by first | rfl | (simp [errW_none, errW_some] <;> rfl) | (simp [*, errW_none, errW_some] <;> rfl), by repeat (first | (with_reducible first | exact HB.out | apply below_alloc | apply pw_below_drewN | apply below_drew1) | exact HB.out)⟩
  · rw [if_neg c3] at H
    have c3b0 : decide (2000 < (l0.length : Int)) = false := decide_eq_false c3
    have c3b1 : decide (2000 < l0.length) = false := decide_eq_false (by omega)
    clear c3
    replace H := Option.bind_eq_some_iff.mp H
    obtain ⟨t104, A60, H⟩ := H
    replace H : (if t104 = true then ((check_Sum.f l0).bind fun t105 => ((merkhetref03_Sum.f k (strOfNums l0)).bind fun t106 => (if t105 = t106 then ((check_More.f a1 l0).bind fun t107 => ((merkhetref03_More.f k a1 (strOfNums l0)).bind fun t108 => (if t107 = t108 then (some ((strOfNums l0).toList == (strOfNums l0).toList)) else (some false)))) else (some false)))) else (some false)) = some r := H
    have A6 := Aside0.mk A60
    clear A60
    by_cases c7 : t104 = true
    · subst c7
      have H1 : ((check_Sum.f l0).bind fun t105 => ((merkhetref03_Sum.f k (strOfNums l0)).bind fun t106 => (if t105 = t106 then ((check_More.f a1 l0).bind fun t107 => ((merkhetref03_More.f k a1 (strOfNums l0)).bind fun t108 => (if t107 = t108 then (some ((strOfNums l0).toList == (strOfNums l0).toList)) else (some false)))) else (some false)))) = some r := by rw [if_pos rfl] at H; exact H
      clear H
      have H := H1
      clear H1
      replace H := Option.bind_eq_some_iff.mp H
      obtain ⟨t105, A80, H⟩ := H
      replace H : ((merkhetref03_Sum.f k (strOfNums l0)).bind fun t106 => (if t105 = t106 then ((check_More.f a1 l0).bind fun t107 => ((merkhetref03_More.f k a1 (strOfNums l0)).bind fun t108 => (if t107 = t108 then (some ((strOfNums l0).toList == (strOfNums l0).toList)) else (some false)))) else (some false))) = some r := H
      have A8 := Aside0.mk A80
      clear A80
      replace H := Option.bind_eq_some_iff.mp H
      obtain ⟨t106, A90, H⟩ := H
      replace H : (if t105 = t106 then ((check_More.f a1 l0).bind fun t107 => ((merkhetref03_More.f k a1 (strOfNums l0)).bind fun t108 => (if t107 = t108 then (some ((strOfNums l0).toList == (strOfNums l0).toList)) else (some false)))) else (some false)) = some r := H
      have A9 := Aside0.mk A90
      clear A90
      by_cases c10 : t105 = t106
      · rw [if_pos c10] at H
        have c10b0 : (t105 == t106) = true := beq_iff_eq.mpr c10
        have c10b1 : (t105 != t106) = false := bne_eq_false_iff_eq.mpr c10
        clear c10
        replace H := Option.bind_eq_some_iff.mp H
        obtain ⟨t107, A110, H⟩ := H
        replace H : ((merkhetref03_More.f k a1 (strOfNums l0)).bind fun t108 => (if t107 = t108 then (some ((strOfNums l0).toList == (strOfNums l0).toList)) else (some false))) = some r := H
        have A11 := Aside0.mk A110
        clear A110
        replace H := Option.bind_eq_some_iff.mp H
        obtain ⟨t108, A120, H⟩ := H
        replace H : (if t107 = t108 then (some ((strOfNums l0).toList == (strOfNums l0).toList)) else (some false)) = some r := H
        have A12 := Aside0.mk A120
        clear A120
        by_cases c13 : t107 = t108
        · rw [if_pos c13] at H
          have c13b0 : (t107 == t108) = true := beq_iff_eq.mpr c13
          have c13b1 : (t107 != t108) = false := bne_eq_false_iff_eq.mpr c13
          clear c13
          obtain rfl := Option.some.inj H
          have hcv14 := Kd.C_string (P := Try.prog) (A := A0) (c := c0) Try.underlying22 Try.underlying5 Try.underlying9 HR0.out
          have hcw14 := fun n_ : Nat => Kd.C_string (P := Try.prog) (A := A0) (c := c0) Try.underlying22 Try.underlying5 Try.underlying9 (Kd.C_drewN HR0.out n_)
          go_enter Try.func3, Try.ntmps3
          go_wp2_with (first | ((with_reducible refine gate_callee (f := 14) rfl ?_); refine goesL_ (some 12) rfl rfl Try.func14 (by kernel_rfl) rfl #[] rfl (by (try simp only [List.map_toArray, List.map_cons, List.map_nil]); first | done | rfl | (simp only [List.length_drop, List.length_take]; rfl)) ?_; (with_reducible refine (merkhetlaw03_fixed.calls  true _ A6.out).mono ?_); rintro e w15 ⟨rfl, hb⟩; refine ⟨_, rfl, ?_⟩; have n0_ := Aside0.mk (below_step (by repeat (first | (with_reducible first | exact HB.out | apply below_alloc | apply pw_below_drewN | apply below_drew1) | exact HB.out)) hb); clear HB; have HB := n0_; clear n0_; (try clear hb); (try clear hb2); (try clear hk); (try clear hi)) | (go_at_call 15; (with_reducible refine (check_Sum.calls _ _ l0 t105 _ ?side1 ?side2 A8.out).mono ?_); (case side1 => repeat (first | exact (Kd.C_below HR0.out HB.out) | (with_reducible refine Kd.C_alloc ?_ _) | (with_reducible refine Kd.C_drewN ?_ _) | (with_reducible refine Kd.C_drew ?_))); (case side2 => exact HC0.out); rintro e w16 ⟨rfl, hb⟩; have n0_ := Aside0.mk (below_step (by repeat (first | (with_reducible first | exact HB.out | apply below_alloc | apply pw_below_drewN | apply below_drew1) | exact HB.out)) hb); clear HB; have HB := n0_; clear n0_; (try clear hb); (try clear hb2); (try clear hk); (try clear hi)) | (go_at_call 16; (with_reducible refine (merkhetref03_Sum.calls k (strOfNums l0) t106 _ A9.out).mono ?_); rintro e w' ⟨rfl, ⟨nd, rfl⟩⟩) | (go_at_call 17; (with_reducible refine (check_More.calls a1 _ _ l0 t107 _ ?side1 ?side2 A11.out).mono ?_); (case side1 => repeat (first | exact (Kd.C_below HR0.out (by repeat (first | (with_reducible first | exact HB.out | apply below_alloc | apply pw_below_drewN | apply below_drew1) | exact HB.out))) | (with_reducible refine Kd.C_alloc ?_ _) | (with_reducible refine Kd.C_drewN ?_ _) | (with_reducible refine Kd.C_drew ?_))); (case side2 => exact HC0.out); rintro e w17 ⟨rfl, hb⟩; have n0_ := Aside0.mk (below_step (by repeat (first | (with_reducible first | exact HB.out | apply below_alloc | apply pw_below_drewN | apply below_drew1) | exact HB.out)) hb); clear HB; have HB := n0_; clear n0_; (try clear hb); (try clear hb2); (try clear hk); (try clear hi)) | (go_at_call 18; (with_reducible refine (merkhetref03_More.calls k a1 (strOfNums l0) t108 _ A12.out).mono ?_); rintro e w' ⟨rfl, ⟨nd, rfl⟩⟩; have hcv18 := Kd.C_string (P := Try.prog) (A := A0) (c := c0) Try.underlying22 Try.underlying5 Try.underlying9 (Kd.C_below HR0.out HB.out); have hcw18 := fun n_ : Nat => Kd.C_string (P := Try.prog) (A := A0) (c := c0) Try.underlying22 Try.underlying5 Try.underlying9 (Kd.C_drewN (Kd.C_below HR0.out HB.out) n_)))
          go_ret
          exact ⟨by first | rfl | (simp [errW_none, errW_some] <;> rfl) | (simp [*, errW_none, errW_some] <;> rfl), by repeat (first | (with_reducible first | exact HB.out | apply below_alloc | apply pw_below_drewN | apply below_drew1) | exact HB.out)⟩
        · rw [if_neg c13] at H
          have c13b0 : (t107 == t108) = false := beq_eq_false_iff_ne.mpr c13
          have c13b1 : (t107 != t108) = true := bne_iff_ne.mpr c13
          obtain rfl := Option.some.inj H
          have hcv19 := Kd.C_string (P := Try.prog) (A := A0) (c := c0) Try.underlying22 Try.underlying5 Try.underlying9 HR0.out
          have hcw19 := fun n_ : Nat => Kd.C_string (P := Try.prog) (A := A0) (c := c0) Try.underlying22 Try.underlying5 Try.underlying9 (Kd.C_drewN HR0.out n_)
          go_enter Try.func3, Try.ntmps3
          go_wp2_with (first | ((with_reducible refine gate_callee (f := 14) rfl ?_); refine goesL_ (some 12) rfl rfl Try.func14 (by kernel_rfl) rfl #[] rfl (by (try simp only [List.map_toArray, List.map_cons, List.map_nil]); first | done | rfl | (simp only [List.length_drop, List.length_take]; rfl)) ?_; (with_reducible refine (merkhetlaw03_fixed.calls  true _ A6.out).mono ?_); rintro e w20 ⟨rfl, hb⟩; refine ⟨_, rfl, ?_⟩; have n0_ := Aside0.mk (below_step (by repeat (first | (with_reducible first | exact HB.out | apply below_alloc | apply pw_below_drewN | apply below_drew1) | exact HB.out)) hb); clear HB; have HB := n0_; clear n0_; (try clear hb); (try clear hb2); (try clear hk); (try clear hi)) | (go_at_call 15; (with_reducible refine (check_Sum.calls _ _ l0 t105 _ ?side1 ?side2 A8.out).mono ?_); (case side1 => repeat (first | exact (Kd.C_below HR0.out HB.out) | (with_reducible refine Kd.C_alloc ?_ _) | (with_reducible refine Kd.C_drewN ?_ _) | (with_reducible refine Kd.C_drew ?_))); (case side2 => exact HC0.out); rintro e w21 ⟨rfl, hb⟩; have n0_ := Aside0.mk (below_step (by repeat (first | (with_reducible first | exact HB.out | apply below_alloc | apply pw_below_drewN | apply below_drew1) | exact HB.out)) hb); clear HB; have HB := n0_; clear n0_; (try clear hb); (try clear hb2); (try clear hk); (try clear hi)) | (go_at_call 16; (with_reducible refine (merkhetref03_Sum.calls k (strOfNums l0) t106 _ A9.out).mono ?_); rintro e w' ⟨rfl, ⟨nd, rfl⟩⟩) | (go_at_call 17; (with_reducible refine (check_More.calls a1 _ _ l0 t107 _ ?side1 ?side2 A11.out).mono ?_); (case side1 => repeat (first | exact (Kd.C_below HR0.out (by repeat (first | (with_reducible first | exact HB.out | apply below_alloc | apply pw_below_drewN | apply below_drew1) | exact HB.out))) | (with_reducible refine Kd.C_alloc ?_ _) | (with_reducible refine Kd.C_drewN ?_ _) | (with_reducible refine Kd.C_drew ?_))); (case side2 => exact HC0.out); rintro e w22 ⟨rfl, hb⟩; have n0_ := Aside0.mk (below_step (by repeat (first | (with_reducible first | exact HB.out | apply below_alloc | apply pw_below_drewN | apply below_drew1) | exact HB.out)) hb); clear HB; have HB := n0_; clear n0_; (try clear hb); (try clear hb2); (try clear hk); (try clear hi)) | (go_at_call 18; (with_reducible refine (merkhetref03_More.calls k a1 (strOfNums l0) t108 _ A12.out).mono ?_); rintro e w' ⟨rfl, ⟨nd, rfl⟩⟩))
          go_ret
          exact ⟨by first | rfl | (simp [errW_none, errW_some] <;> rfl) | (simp [*, errW_none, errW_some] <;> rfl), by repeat (first | (with_reducible first | exact HB.out | apply below_alloc | apply pw_below_drewN | apply below_drew1) | exact HB.out)⟩
      · rw [if_neg c10] at H
        have c10b0 : (t105 == t106) = false := beq_eq_false_iff_ne.mpr c10
        have c10b1 : (t105 != t106) = true := bne_iff_ne.mpr c10
        obtain rfl := Option.some.inj H
        have hcv23 := Kd.C_string (P := Try.prog) (A := A0) (c := c0) Try.underlying22 Try.underlying5 Try.underlying9 HR0.out
        have hcw23 := fun n_ : Nat => Kd.C_string (P := Try.prog) (A := A0) (c := c0) Try.underlying22 Try.underlying5 Try.underlying9 (Kd.C_drewN HR0.out n_)
        go_enter Try.func3, Try.ntmps3
        go_wp2_with (first | ((with_reducible refine gate_callee (f := 14) rfl ?_); refine goesL_ (some 12) rfl rfl Try.func14 (by kernel_rfl) rfl #[] rfl (by (try simp only [List.map_toArray, List.map_cons, List.map_nil]); first | done | rfl | (simp only [List.length_drop, List.length_take]; rfl)) ?_; (with_reducible refine (merkhetlaw03_fixed.calls  true _ A6.out).mono ?_); rintro e w24 ⟨rfl, hb⟩; refine ⟨_, rfl, ?_⟩; have n0_ := Aside0.mk (below_step (by repeat (first | (with_reducible first | exact HB.out | apply below_alloc | apply pw_below_drewN | apply below_drew1) | exact HB.out)) hb); clear HB; have HB := n0_; clear n0_; (try clear hb); (try clear hb2); (try clear hk); (try clear hi)) | (go_at_call 15; (with_reducible refine (check_Sum.calls _ _ l0 t105 _ ?side1 ?side2 A8.out).mono ?_); (case side1 => repeat (first | exact (Kd.C_below HR0.out HB.out) | (with_reducible refine Kd.C_alloc ?_ _) | (with_reducible refine Kd.C_drewN ?_ _) | (with_reducible refine Kd.C_drew ?_))); (case side2 => exact HC0.out); rintro e w25 ⟨rfl, hb⟩; have n0_ := Aside0.mk (below_step (by repeat (first | (with_reducible first | exact HB.out | apply below_alloc | apply pw_below_drewN | apply below_drew1) | exact HB.out)) hb); clear HB; have HB := n0_; clear n0_; (try clear hb); (try clear hb2); (try clear hk); (try clear hi)) | (go_at_call 16; (with_reducible refine (merkhetref03_Sum.calls k (strOfNums l0) t106 _ A9.out).mono ?_); rintro e w' ⟨rfl, ⟨nd, rfl⟩⟩))
        go_ret
        exact ⟨by first | rfl | (simp [errW_none, errW_some] <;> rfl) | (simp [*, errW_none, errW_some] <;> rfl), by repeat (first | (with_reducible first | exact HB.out | apply below_alloc | apply pw_below_drewN | apply below_drew1) | exact HB.out)⟩
    · replace c7 := Bool.eq_false_iff.mpr c7
      subst c7
      have H1 : (some false) = some r := by rw [if_neg (show ¬ (false = true) by decide)] at H; exact H
      clear H
      have H := H1
      clear H1
      obtain rfl := Option.some.inj H
      have hcv26 := Kd.C_string (P := Try.prog) (A := A0) (c := c0) Try.underlying22 Try.underlying5 Try.underlying9 HR0.out
      have hcw26 := fun n_ : Nat => Kd.C_string (P := Try.prog) (A := A0) (c := c0) Try.underlying22 Try.underlying5 Try.underlying9 (Kd.C_drewN HR0.out n_)
      go_enter Try.func3, Try.ntmps3
      go_wp2_with (first | ((with_reducible refine gate_callee (f := 14) rfl ?_); refine goesL_ (some 12) rfl rfl Try.func14 (by kernel_rfl) rfl #[] rfl (by (try simp only [List.map_toArray, List.map_cons, List.map_nil]); first | done | rfl | (simp only [List.length_drop, List.length_take]; rfl)) ?_; (with_reducible refine (merkhetlaw03_fixed.calls  false _ A6.out).mono ?_); rintro e w27 ⟨rfl, hb⟩; refine ⟨_, rfl, ?_⟩; have n0_ := Aside0.mk (below_step (by repeat (first | (with_reducible first | exact HB.out | apply below_alloc | apply pw_below_drewN | apply below_drew1) | exact HB.out)) hb); clear HB; have HB := n0_; clear n0_; (try clear hb); (try clear hb2); (try clear hk); (try clear hi)))
      go_ret
      exact ⟨by first | rfl | (simp [errW_none, errW_some] <;> rfl) | (simp [*, errW_none, errW_some] <;> rfl), by repeat (first | (with_reducible first | exact HB.out | apply below_alloc | apply pw_below_drewN | apply below_drew1) | exact HB.out)⟩

/-- THE ONE PURE STATEMENT of merkhetlaw03_CheckSums: yours. -/
def merkhetlaw03_CheckSums.Pure : Prop := ∀ (l0 : List Int) (a1 : Int), l0.length ≤ maxLen → l0.length * 1 ≤ 140737488351232 → (∀ x ∈ l0, (Lit.int .u8 x).wf = true) → (Lit.int .u32 a1).wf = true → ∃ k, merkhetlaw03_CheckSums.f k l0 a1 = some true
theorem merkhetlaw03_CheckSums.walk (P : merkhetlaw03_CheckSums.Pure) (a0 : Option Addr) (len0 cap0 : Nat) (z0 : List Int) (a1 : Int) (w : World) (w0 : (a0 = none ∧ len0 = 0 ∧ cap0 = 0 ∧ z0 = []) ∨ ∃ x, a0 = some x ∧ len0 ≤ cap0 ∧ cap0 ≤ maxLen ∧ z0.length = cap0 ∧ (∀ i, i < z0.length → w.cell? (x.add i) = some (.int .u8 (z0.getD i 0))) ∧ ∀ n ∈ z0, (Lit.int .u8 n).wf = true) (y0 : len0 * 1 ≤ 140737488351232) (w1 : (Lit.int .u32 a1).wf = true) :
    Calls Try.prog 3 #[.slice a0 len0 cap0, .int .u32 a1] w fun e w' => e = .returned (.bool true) ∧ Below w.heap.size w w' := by
  obtain ⟨l0, rfl, hr0, hm0, hw0, hc0⟩ := ReadsInt.ofRowC w0
  obtain ⟨k, h⟩ := P l0 a1 hm0 y0 hw0 w1
  refine (merkhetlaw03_CheckSums.calls k _ _ l0 a1 true w (Kd.C_of_reads (d := (0 : Int)) (h1 := fun _ => rfl) hr0) hc0 h).mono ?_
  rintro e w' ⟨rfl, hd⟩
  exact ⟨rfl, hd⟩

end Go.Proofs.Ytknigpdglbknhaa.M
