-- WRITTEN FOR THIS CLAIM by wip/tools/mp.py, a program of this project that drives the kit's print; the functions that the print does not take are this project's own texts.
import Derived.Test.YtdpodjgggicaoaaSOx0r
import Derived.Test.YtdpodjgggicaoaaSOx1r
import Derived.Test.YtdpodjgggicaoaaSOx3r
namespace Go.Proofs.Ytdpodjgggicaoaa.SO
open Go.RowKit Go.Proofs.YtdpodjgggicaoaaW.PrintWords Go.Proofs.YtdpodjgggicaoaaW.PrintLast Go.Proofs.YtdpodjgggicaoaaW.PrintMore
attribute [local go_sem] max2_int min2_int max_two min_two max_three min_three max_four min_four   -- for this text's walks alone
set_option linter.unusedVariables false
set_option linter.unusedSimpArgs false
theorem check_steps_some (c : Int) : ∃ r, check_steps.f 9 c = some r := by
  have h : ∀ d : Nat, d ≤ 8 → ∀ c : Int, ∃ r, check_steps.l0 (d + 1) c (8 - (d : Int)) = some r := by
    intro d
    induction d with
    | zero => intro _ c; exact ⟨c, by simp [check_steps.l0]⟩
    | succ d ih =>
      intro hd c
      have e : wrap64 (8 - ((d + 1 : Nat) : Int) + 1) = 8 - (d : Int) := by unfold wrap64; omega
      by_cases c1 : (Go.bits .and .u32 c 1) = 0
      · obtain ⟨r, hr⟩ := ih (by omega) (c / 2)
        refine ⟨r, ?_⟩
        simp only [check_steps.l0] at hr ⊢
        rw [if_pos (by omega), if_pos c1, e]; exact hr
      · obtain ⟨r, hr⟩ := ih (by omega) (Go.bits .xor .u32 (c / 2) 3988292384)
        refine ⟨r, ?_⟩
        simp only [check_steps.l0] at hr ⊢
        rw [if_pos (by omega), if_neg c1, e]; exact hr
  exact h 8 (by omega) c
def stepTab (i : Int) : Int := (check_steps.f 9 i).getD 0
theorem check_steps_tab (c : Int) : check_steps.f 9 c = some (stepTab c) := by
  obtain ⟨r, h⟩ := check_steps_some c
  simp [stepTab, h]
def tabUpto (n : Nat) : Array Value := ((List.range 256).map fun j : Nat => Value.int .u32 (if j < n then stepTab j else 0)).toArray
def tabZero : Array Value := (List.replicate 256 (Value.int .u32 0)).toArray
set_option maxRecDepth 100000 in
theorem tabUpto_zero : tabUpto 0 = tabZero := by
  unfold tabUpto tabZero
  congr 1
theorem tabUpto_size (n : Nat) : (tabUpto n).size = 256 := by simp [tabUpto]
theorem tabUpto_set (n : Nat) (h : n < 256) : (tabUpto n).setIfInBounds n (.int .u32 (stepTab n)) = tabUpto (n + 1) := by
  apply Array.ext
  · simp [tabUpto]
  · intro i h1 h2
    simp [tabUpto] at h2
    rw [Array.getElem_setIfInBounds (by simpa [tabUpto] using h2)]
    simp only [tabUpto, List.getElem_toArray, List.getElem_map, List.getElem_range]
    by_cases e : n = i
    · subst e; simp
    · simp only [e, if_false]
      by_cases e2 : i < n
      · rw [if_pos e2, if_pos (by omega)]
      · rw [if_neg e2, if_neg (by omega)]
set_option maxHeartbeats 8000000 in
set_option maxRecDepth 100000 in
theorem check_table_calls (w : World) : Calls Try.prog 68 #[] w fun e w' => e = .returned (.agg (tabUpto 256)) ∧ Below w.heap.size w w' := by
  have hz : ∀ w, Sem.run Try.prog (zeroValue 115) w = .ok (.agg tabZero) w := fun _ => by kernel_rfl
  have HB := Aside0.mk (Below.refl w.heap.size w)
  go_enter Try.func68, Try.ntmps68
  go_wp2
  go_loopw [3] (fun i wr => ∃ k : Nat, k ≤ 256 ∧ i = .int .i64 k ∧ Aside0 (Below w.heap.size w wr) ∧ Aside0 (wr.heap[w.heap.size]? = some (.cells tabZero 115 (0, 0))) ∧ Aside0 (wr.heap[w.heap.size + 1]? = some (.cells (tabUpto k) 115 (0, 0)))) (fun i _ => 256 - (intOf i).toNat)
  case atStart => exact ⟨0, by omega, rfl, ⟨below_alloc (below_alloc HB.out _) _⟩, ⟨heap_alloc2_old _ _ _⟩, ⟨by rw [tabUpto_zero]; exact heap_alloc2_new _ _ _⟩⟩
  case round =>
    obtain ⟨k, hk, rfl, HBr, h0, h1⟩ := hrel
    by_cases hlt : k < 256
    · have hfz : wr.frozen? ⟨w.heap.size + 1, k, none⟩ = false := blk_frozen h1.out k
      obtain ⟨v, hcell⟩ : ∃ v, wr.cell? ⟨w.heap.size + 1, k, none⟩ = some v := ⟨_, by rw [blk_cell h1.out k]; exact Array.getElem?_eq_getElem (by rw [tabUpto_size]; exact hlt)⟩
      go_wp2_with (go_at_call 72; refine (check_steps.calls 9 _ _ _ (check_steps_tab _)).mono ?_; rintro e w' ⟨rfl, ⟨n, rfl⟩⟩)
      go_roundw
      case measure => simp [intOf]; omega
      case rel => exact ⟨k + 1, by omega, by go_num, ⟨below_set (pw_below_drewN HBr.out n) (Nat.le_succ _)⟩, ⟨blk_far (blk_drewN h0.out n) (by simp) _⟩, ⟨blk_put (blk_drewN h1.out n) k _ (tabUpto_set k hlt)⟩⟩
    · obtain rfl : k = 256 := by omega
      go_wp2_with first
        | (refine wpList_load_row rfl 115 _ rfl (w.heap.size + 1) rfl 115 _ (0, 0) _ h1.out Try.underlying115 rfl (by kernel_rfl) ?_)
        | (refine wpList_store_row rfl 115 _ _ rfl w.heap.size _ rfl rfl 115 _ h0.out (by kernel_rfl) (by kernel_rfl) (by kernel_rfl) ?_)
      exact bodyPost_ret (v := .agg (tabUpto 256)) (results_cell_row (P := Try.prog) rfl _ _ w.heap.size 115 _ (0, 0) _ rfl (setRow_heap _ _ _ _ _ _ h0.out) Try.underlying115 rfl (by kernel_rfl)) rfl ⟨rfl, below_setRow HBr.out (Nat.le_refl _) _⟩
def check_More.f (a0 : Int) (l1 : List Int) : Option Int := some (Go.bits .xor .u32 4294967295 (l1.foldl (fun c x => Go.bits .xor .u32 (c / 256) (stepTab (Go.bits .xor .u8 (c % 256) x))) (Go.bits .xor .u32 4294967295 a0)))
set_option maxHeartbeats 8000000 in
set_option maxRecDepth 100000 in
theorem check_More.calls (a0 : Int) (A1 : Option Addr) (c1 : Nat) (l1 : List Int) (r : Int) (w : World) (hr1 : Kd.C (Kd.int .u8) w A1 l1.length l1) (hc1 : l1.length ≤ c1) (h : check_More.f a0 l1 = some r) :
    Calls Try.prog 58 #[.int .u32 a0, .slice A1 l1.length c1] w fun e w' => e = .returned (.int .u32 r) ∧ Below w.heap.size w w' := by
  have hz : ∀ w, Sem.run Try.prog (zeroValue 115) w = .ok (.agg tabZero) w := fun _ => by kernel_rfl
  have HR := Aside0.mk hr1
  have HRES := Aside0.mk (Option.some.inj h)
  clear hr1 h
  have HB := Aside0.mk (Below.refl w.heap.size w)
  have hmax : l1.length ≤ 9223372036854775807 := Kd.C_max HR.out
  go_enter Try.func58, Try.ntmps58
  go_wp2_with first
    | (go_at_call 68; refine (check_table_calls _).mono ?_; rintro e w1 ⟨rfl, hb⟩; have HB1 := Aside0.mk hb; clear hb)
    | (refine wpList_store_row rfl 115 _ _ rfl _ _ rfl rfl 115 _ (heap_alloc_new _ _) (by kernel_rfl) (by kernel_rfl) (by kernel_rfl) ?_; rw [World.setRow_alloc_new])
  have hnew : (w1.alloc (.cells (tabUpto 256) 115)).heap[w1.heap.size]? = some (.cells (tabUpto 256) 115 (0, 0)) := heap_alloc_new _ _
  have HCt : Aside0 (∀ j : Int, 0 ≤ j → j ≤ 255 → (w1.alloc (.cells (tabUpto 256) 115)).cell? ⟨w1.heap.size, j.toNat, none⟩ = some (.int .u32 (stepTab j))) := ⟨fun j h0 h1 => by
    rw [blk_cell hnew, Array.getElem?_eq_getElem (by rw [tabUpto_size]; omega)]
    obtain ⟨n, rfl⟩ := Int.eq_ofNat_of_zero_le h0
    simp only [tabUpto, List.getElem_toArray, List.getElem_map, List.getElem_range, Int.toNat_natCast]
    rw [if_pos (by omega)]⟩
  have HB2 := Aside0.mk (below_alloc HB1.out (.cells (tabUpto 256) 115))
  clear hnew HB1
  obtain ⟨w2, hw2⟩ : ∃ w2 : World, w2 = w1.alloc (.cells (tabUpto 256) 115) := ⟨_, rfl⟩
  rw [← hw2] at HCt HB2
  rw [← hw2]
  clear hw2
  go_loop [6, 14] (fun c i => ∃ k : Nat, k ≤ l1.length ∧ i = .int .i64 k ∧ c = .int .u32 ((l1.take k).foldl (fun c x => Go.bits .xor .u32 (c / 256) (stepTab (Go.bits .xor .u8 (c % 256) x))) (Go.bits .xor .u32 4294967295 a0))) (fun _ i => l1.length - (intOf i).toNat)
  case atStart => exact ⟨0, by omega, rfl, rfl⟩
  case round =>
    obtain ⟨k, hk, rfl, rfl⟩ := hrel
    by_cases hlt : k < l1.length
    · generalize hc : (l1.take k).foldl (fun c x => Go.bits .xor .u32 (c / 256) (stepTab (Go.bits .xor .u8 (c % 256) x))) (Go.bits .xor .u32 4294967295 a0) = c
      obtain ⟨ad, e, hx⟩ := Kd.at_int HR.out (k : Int) (by omega) (by omega)
      cases e
      replace hx := (HB2.out.cell (World.block_lt_of_cell? w _ hx)).trans hx
      rw [Int.toNat_natCast] at hx
      obtain ⟨x, hxd⟩ : ∃ x, rd l1 k = x := ⟨_, rfl⟩
      rw [hxd] at hx
      obtain ⟨j, hj⟩ : ∃ j, Go.bits .xor .u8 (c % 256) x = j := ⟨_, rfl⟩
      have hj0 : 0 ≤ j := by rw [← hj]; exact bits_lo_u8 _ _ _
      have hj1 : j ≤ 255 := by rw [← hj]; exact bits_hi_u8 _ _ _
      have hj2 : j < 256 := by omega
      have hcj := HCt.out j hj0 hj1
      have HS := Aside0.mk (show (l1.take (k + 1)).foldl (fun c x => Go.bits .xor .u32 (c / 256) (stepTab (Go.bits .xor .u8 (c % 256) x))) (Go.bits .xor .u32 4294967295 a0) = Go.bits .xor .u32 (c / 256) (stepTab j) from by
        rw [List.take_succ_eq_append_getElem hlt, List.foldl_append, hc]
        simp only [List.foldl_cons, List.foldl_nil]
        have : l1[k] = x := by rw [← hxd]; simp [rd, List.getD_eq_getElem?_getD, List.getElem?_eq_getElem hlt]
        rw [this, hj])
      clear hc hxd
      go_wp2
      go_round
      case measure => simp [intOf]; omega
      case rel => exact ⟨k + 1, by omega, by go_num, by rw [HS.out]⟩
    · obtain rfl := HRES.out
      have hK : Aside0 (k = l1.length) := ⟨by omega⟩
      go_wp2
      go_ret
      exact ⟨by rw [hK.out, List.take_length]; rfl, HB2.out⟩
def check_Sum.f (l0 : List Int) : Option (Int) := (check_More.f 0 l0).bind fun t157 => (some t157)
set_option maxHeartbeats 8000000 in
set_option maxRecDepth 100000 in
theorem check_Sum.calls (A0 : Option Addr) (c0 : Nat) (l0 : List Int) (r : Int) (w : World) (hr0 : Kd.C (Kd.int .u8) w A0 l0.length l0) (hc0 : l0.length ≤ c0) (h : check_Sum.f l0 = some r) :
    Calls Try.prog 53 #[.slice A0 l0.length c0] w fun e w' => e = .returned (.int .u32 r) ∧ Below w.heap.size w w' := by
  have HR0 := Aside0.mk hr0
  have HC0 := Aside0.mk hc0
  clear hr0 hc0
  have HB := Aside0.mk (Below.refl w.heap.size w)
  have H : ((check_More.f 0 l0).bind fun t157 => (some t157)) = some r := h
  clear h
  replace H := Option.bind_eq_some_iff.mp H
  obtain ⟨t157, A20, H⟩ := H
  replace H : (some t157) = some r := H
  have A2 := Aside0.mk A20
  clear A20
  obtain rfl := Option.some.inj H
  go_enter Try.func53, Try.ntmps53
  go_wp2_with (first | ((with_reducible refine gate_callee (f := 58) rfl ?_); refine goesL_ (some 4) rfl rfl Try.func58 (by kernel_rfl) rfl #[.int .u32 0, .slice A0 l0.length c0] rfl (by (try simp only [List.map_toArray, List.map_cons, List.map_nil]); first | done | rfl | (simp only [List.length_drop, List.length_take]; rfl)) ?_; (with_reducible refine (check_More.calls 0 _ _ l0 t157 _ ?side1 ?side2 A2.out).mono ?_); (case side1 => repeat (first | exact HR0.out | (with_reducible refine Kd.C_alloc ?_ _) | (with_reducible refine Kd.C_drewN ?_ _) | (with_reducible refine Kd.C_drew ?_))); (case side2 => exact HC0.out); rintro e w3 ⟨rfl, hb⟩; refine ⟨_, rfl, ?_⟩; have n0_ := Aside0.mk (below_step (by repeat (first | (with_reducible first | exact HB.out | apply below_alloc | apply pw_below_drewN | apply below_drew1) | exact HB.out)) hb); clear HB; have HB := n0_; clear n0_; (try clear hb); (try clear hb2); (try clear hk); (try clear hi)))
  go_ret
  exact ⟨by first | rfl | (simp [errW_none, errW_some] <;> rfl) | (simp [*, errW_none, errW_some] <;> rfl), by repeat (first | (with_reducible first | exact HB.out | apply below_alloc | apply pw_below_drewN | apply below_drew1) | exact HB.out)⟩
def frame_sum.f (l0 : List Int) : Option (Int) := (pack_Put.f ([] : List Int) (IntKind.u64.wrap ((l0.length : Int))) 2).bind fun t158 => ((check_Sum.f t158).bind fun t161 => ((check_More.f t161 l0).bind fun t162 => (some t162)))
set_option maxHeartbeats 8000000 in
set_option maxRecDepth 100000 in
theorem frame_sum.calls (A0 : Option Addr) (c0 : Nat) (l0 : List Int) (r : Int) (w : World) (hr0 : Kd.C (Kd.int .u8) w A0 l0.length l0) (hc0 : l0.length ≤ c0) (h : frame_sum.f l0 = some r) :
    Calls Try.prog 40 #[.slice A0 l0.length c0] w fun e w' => e = .returned (.int .u32 r) ∧ Below w.heap.size w w' := by
  have HR0 := Aside0.mk hr0
  have HC0 := Aside0.mk hc0
  clear hr0 hc0
  have HB := Aside0.mk (Below.refl w.heap.size w)
  have H : ((pack_Put.f ([] : List Int) (IntKind.u64.wrap ((l0.length : Int))) 2).bind fun t158 => ((check_Sum.f t158).bind fun t161 => ((check_More.f t161 l0).bind fun t162 => (some t162)))) = some r := h
  clear h
  replace H := Option.bind_eq_some_iff.mp H
  obtain ⟨t158, A20, H⟩ := H
  replace H : ((check_Sum.f t158).bind fun t161 => ((check_More.f t161 l0).bind fun t162 => (some t162))) = some r := H
  have A2 := Aside0.mk A20
  clear A20
  replace H := Option.bind_eq_some_iff.mp H
  obtain ⟨t161, A30, H⟩ := H
  replace H : ((check_More.f t161 l0).bind fun t162 => (some t162)) = some r := H
  have A3 := Aside0.mk A30
  clear A30
  replace H := Option.bind_eq_some_iff.mp H
  obtain ⟨t162, A40, H⟩ := H
  replace H : (some t162) = some r := H
  have A4 := Aside0.mk A40
  clear A40
  obtain rfl := Option.some.inj H
  go_enter Try.func40, Try.ntmps40
  go_wp2_with (first | ((with_reducible refine gate_callee (f := 37) rfl ?_); refine goesL_ (some 6) rfl rfl Try.func37 (by kernel_rfl) rfl #[.slice none 0 0, .int .u64 (IntKind.u64.wrap ((l0.length : Int))), .int .i64 2] rfl (by (try simp only [List.map_toArray, List.map_cons, List.map_nil]); first | done | rfl | (simp only [List.length_drop, List.length_take]; rfl) | (rw [Go.Proofs.Ytdpodjgggicaoaa.H.u64_id _ (by simp only [decide_eq_false_iff_not, decide_eq_true_eq, Nat.not_lt, Int.not_lt] at *; omega) (by simp only [decide_eq_false_iff_not, decide_eq_true_eq, Nat.not_lt, Int.not_lt] at *; omega)]; rfl)) ?_; (refine (pack_Put.calls _ _ ([] : List Int) (IntKind.u64.wrap ((l0.length : Int))) 2 t158 _ ?side1 ?side2 A2.out).mono ?_); (case side1 => exact Kd.C_nil _ _); (case side2 => exact Nat.le_refl _); rintro e w5 ⟨v159, rfl, ho0, hb⟩; refine ⟨_, rfl, ?_⟩; have n0_ := Aside0.mk (Kd.R_lower ho0 (below_size (by repeat (first | (with_reducible first | exact HB.out | apply below_alloc | apply pw_below_drewN | apply below_drew1) | exact HB.out)))); have n1_ := Aside0.mk (below_step (by repeat (first | (with_reducible first | exact HB.out | apply below_alloc | apply pw_below_drewN | apply below_drew1) | exact HB.out)) hb); clear HB; have HO160 := n0_; have HB := n1_; clear n0_ n1_; (try clear hb); (try clear hb2); (try clear hk); (try clear hi); (try clear ho0); obtain ⟨Ao6, co6, eo6⟩ := Kd.R_slice HO160.out; subst eo6) | ((with_reducible refine gate_callee (f := 53) rfl ?_); refine goesL_ (some 7) rfl rfl Try.func53 (by kernel_rfl) rfl #[.slice Ao6 t158.length co6] rfl (by (try simp only [List.map_toArray, List.map_cons, List.map_nil]); first | done | rfl | (simp only [List.length_drop, List.length_take]; rfl) | (rw [Go.Proofs.Ytdpodjgggicaoaa.H.u64_id _ (by simp only [decide_eq_false_iff_not, decide_eq_true_eq, Nat.not_lt, Int.not_lt] at *; omega) (by simp only [decide_eq_false_iff_not, decide_eq_true_eq, Nat.not_lt, Int.not_lt] at *; omega)]; rfl)) ?_; (with_reducible refine (check_Sum.calls _ _ t158 t161 _ ?side1 ?side2 A3.out).mono ?_); (case side1 => repeat (first | exact (Kd.R_reads' HO160.out).2.2 | (with_reducible refine Kd.C_alloc ?_ _) | (with_reducible refine Kd.C_drewN ?_ _) | (with_reducible refine Kd.C_drew ?_))); (case side2 => exact (Kd.R_reads' HO160.out).2.1); rintro e w7 ⟨rfl, hb⟩; refine ⟨_, rfl, ?_⟩; have n0_ := Aside0.mk (Kd.R_below (by (with_reducible repeat (first | apply Kd.R_alloc | apply Kd.R_drewN | apply Kd.R_drew)); exact HO160.out) hb); have n1_ := Aside0.mk (below_step (by repeat (first | (with_reducible first | exact HB.out | apply below_alloc | apply pw_below_drewN | apply below_drew1) | exact HB.out)) hb); clear HO160; clear HB; have HO160 := n0_; have HB := n1_; clear n0_ n1_; (try clear hb); (try clear hb2); (try clear hk); (try clear hi)) | ((with_reducible refine gate_callee (f := 58) rfl ?_); refine goesL_ (some 9) rfl rfl Try.func58 (by kernel_rfl) rfl #[.int .u32 t161, .slice A0 l0.length c0] rfl (by (try simp only [List.map_toArray, List.map_cons, List.map_nil]); first | done | rfl | (simp only [List.length_drop, List.length_take]; rfl) | (rw [Go.Proofs.Ytdpodjgggicaoaa.H.u64_id _ (by simp only [decide_eq_false_iff_not, decide_eq_true_eq, Nat.not_lt, Int.not_lt] at *; omega) (by simp only [decide_eq_false_iff_not, decide_eq_true_eq, Nat.not_lt, Int.not_lt] at *; omega)]; rfl)) ?_; (with_reducible refine (check_More.calls t161 _ _ l0 t162 _ ?side1 ?side2 A4.out).mono ?_); (case side1 => repeat (first | exact (Kd.C_below HR0.out HB.out) | (with_reducible refine Kd.C_alloc ?_ _) | (with_reducible refine Kd.C_drewN ?_ _) | (with_reducible refine Kd.C_drew ?_))); (case side2 => exact HC0.out); rintro e w8 ⟨rfl, hb⟩; refine ⟨_, rfl, ?_⟩; have n0_ := Aside0.mk (Kd.R_below (by (with_reducible repeat (first | apply Kd.R_alloc | apply Kd.R_drewN | apply Kd.R_drew)); exact HO160.out) hb); have n1_ := Aside0.mk (below_step (by repeat (first | (with_reducible first | exact HB.out | apply below_alloc | apply pw_below_drewN | apply below_drew1) | exact HB.out)) hb); clear HO160; clear HB; have HO160 := n0_; have HB := n1_; clear n0_ n1_; (try clear hb); (try clear hb2); (try clear hk); (try clear hi)))
  go_ret
  exact ⟨by first | rfl | (simp [errW_none, errW_some] <;> rfl) | (simp [*, errW_none, errW_some] <;> rfl), by repeat (first | (with_reducible first | exact HB.out | apply below_alloc | apply pw_below_drewN | apply below_drew1) | exact HB.out)⟩
def frame_Put.j0 : Nat → List Int → Bool → Option (List Int × Int)
  | 0, _, _ => none
  | k + 1, x0, x12 => if x12 = true then (some (([] : List Int), 1)) else ((pack_Put.f ([] : List Int) (IntKind.u64.wrap ((x0.length : Int))) 2).bind fun t163 => ((frame_sum.f x0).bind fun t166 => ((pack_Put.f t163 (IntKind.u64.wrap (t166)) 4).bind fun t167 => (if t167.length + x0.length < 140737488355328 then (some ((t167 ++ x0), 0)) else (none)))))
def frame_Put.f (k : Nat) (l0 : List Int) : Option (List Int × Int) := if (l0.length : Int) < 1 then (frame_Put.j0 k l0 true) else (frame_Put.j0 k l0 (decide ((l0.length : Int) > 2406)))
theorem frame_Put.mono_l : ∀ k, (∀ y0 y1, LeO (frame_Put.j0 k y0 y1) (frame_Put.j0 (k + 1) y0 y1))
  | 0 => fun _ _ r h => by simp [frame_Put.j0] at h
  | k + 1 => by
    have ih0 := frame_Put.mono_l k
    · intro y0 y1
      unfold frame_Put.j0
      repeat' first
      | (with_reducible exact ih0 _ _)
      | (with_reducible exact LeO.refl _)
      | (with_reducible exact LeO.none _)
      | (with_reducible refine LeO.ite ?_ ?_)
      | (with_reducible refine LeO.bind ?_ (fun _ => ?_))
      | exact ih0 _ _
      | exact LeO.none _
      | refine LeO.ite ?_ ?_
      | refine LeO.bind ?_ (fun _ => ?_)
theorem frame_Put.mono : ∀ a0 k, LeO (frame_Put.f k a0) (frame_Put.f (k + 1) a0) := by
  intro a0 k
  have ih0 := frame_Put.mono_l k
  unfold frame_Put.f
  repeat' first
      | (with_reducible exact ih0 _ _)
      | (with_reducible exact LeO.refl _)
      | (with_reducible exact LeO.none _)
      | (with_reducible refine LeO.ite ?_ ?_)
      | (with_reducible refine LeO.bind ?_ (fun _ => ?_))
      | exact ih0 _ _
      | exact LeO.none _
      | refine LeO.ite ?_ ?_
      | refine LeO.bind ?_ (fun _ => ?_)
set_option maxHeartbeats 8000000 in
set_option maxRecDepth 100000 in
theorem frame_Put.calls (k : Nat) (A0 : Option Addr) (c0 : Nat) (l0 : List Int) (r1 : List Int) (r2 : Int) (w : World) (hr0 : Kd.C (Kd.int .u8) w A0 l0.length l0) (hc0 : l0.length ≤ c0) (h : frame_Put.f k l0 = some (r1, r2)) :
    Calls Try.prog 20 #[.slice A0 l0.length c0] w fun e w' => ∃ v0_ : Value, e = .returned (.tuple #[v0_, .int .i64 r2]) ∧ Kd.R (Kd.int .u8) 5 w' w.heap.size (fun _ => True) v0_ r1 ∧ Below w.heap.size w w' := by
  have HR0 := Aside0.mk hr0
  have HC0 := Aside0.mk hc0
  clear hr0 hc0
  have HB := Aside0.mk (Below.refl w.heap.size w)
  have H : (if (l0.length : Int) < 1 then (frame_Put.j0 k l0 true) else (frame_Put.j0 k l0 (decide ((l0.length : Int) > 2406)))) = some (r1, r2) := h
  clear h
  have HC2 := Aside0.mk H
  clear H
  go_enter Try.func20, Try.ntmps20
  go_upto_region 1 with (fail)
  go_cut [12] (fun v12 wc => ∃ (kq : Nat) (x12_1 : Bool), v12 = .bool x12_1 ∧ Aside0 (frame_Put.j0 kq l0 x12_1 = some (r1, r2)) ∧ Aside0 (kq ≤ k) ∧ Aside0 (Below w.heap.size w wc))
  case first =>
    have H := HC2.out
    clear HC2
    by_cases c3 : (l0.length : Int) < 1
    · rw [if_pos c3] at H
      have c3b0 : decide ((l0.length : Int) < 1) = true := decide_eq_true c3
      have c3b1 : decide (l0.length < 1) = true := decide_eq_true (by omega)
      clear c3
      (first | rw [c3b0] | (simp only [i64_w, i32_w]; rw [c3b0]) | skip)
      have H' := Aside0.mk H
      clear H
      go_wp2
      go_meet
      case rel => exact ⟨_, (true), (by first | rfl | (simp; done) | (simp [*]; done)), H', ⟨by first | omega | exact Nat.le_refl _⟩, ⟨by repeat (first | (with_reducible first | exact HB.out | apply below_alloc | apply pw_below_drewN | apply below_drew1) | exact HB.out)⟩⟩
    · rw [if_neg c3] at H
      have c3b0 : decide ((l0.length : Int) < 1) = false := decide_eq_false c3
      have c3b1 : decide (l0.length < 1) = false := decide_eq_false (by omega)
      clear c3
      (first | rw [c3b0] | (simp only [i64_w, i32_w]; rw [c3b0]) | skip)
      have H' := Aside0.mk H
      clear H
      go_wp2
      go_meet
      case rel => exact ⟨_, (decide ((l0.length : Int) > 2406)), (by first | rfl | (simp; done) | (simp [*]; done)), H', ⟨by first | omega | exact Nat.le_refl _⟩, ⟨by repeat (first | (with_reducible first | exact HB.out | apply below_alloc | apply pw_below_drewN | apply below_drew1) | exact HB.out)⟩⟩
  case rest =>
    clear HC2
    try clear c2
    try clear p2
    try clear c3
    try clear c3b0
    try clear c3b1
    obtain ⟨kq, x12_1, rfl, HA, HJ1, HB⟩ := hcut
    cases kq with
    | zero => exact absurd HA.out (by simp [frame_Put.j0])
    | succ kj1 =>
      have H := HA.out
      clear HA
      simp only [frame_Put.j0] at H
      by_cases c4 : x12_1 = true
      · subst c4
        have H1 : (some (([] : List Int), 1)) = some (r1, r2) := by rw [if_pos rfl] at H; exact H
        clear H
        have H := H1
        clear H1
        simp only [Option.some.injEq, Prod.mk.injEq] at H
        obtain ⟨rfl, rfl⟩ := H
        go_wp2
        go_ret2
        exact ⟨_, by first | rfl | (simp [errW_none, errW_some] <;> rfl) | (simp [*, errW_none, errW_some] <;> rfl), by first | exact Kd.R_nil _ _ _ _ _ | exact Kd.N_nil _ _ _ _ _ | exact Kd.V_nil _ _ _ _ _ | exact Kd.Q_nil _ _ _ _ _ | exact Kd.S_nil _ _ _ _ _, by repeat (first | (with_reducible first | exact HB.out | apply below_alloc | apply pw_below_drewN | apply below_drew1) | exact HB.out)⟩
      · replace c4 := Bool.eq_false_iff.mpr c4
        subst c4
        have H1 : ((pack_Put.f ([] : List Int) (IntKind.u64.wrap ((l0.length : Int))) 2).bind fun t163 => ((frame_sum.f l0).bind fun t166 => ((pack_Put.f t163 (IntKind.u64.wrap (t166)) 4).bind fun t167 => (if t167.length + l0.length < 140737488355328 then (some ((t167 ++ l0), 0)) else (none))))) = some (r1, r2) := by rw [if_neg (show ¬ (false = true) by decide)] at H; exact H
        clear H
        have H := H1
        clear H1
        replace H := Option.bind_eq_some_iff.mp H
        obtain ⟨t163, A50, H⟩ := H
        replace H : ((frame_sum.f l0).bind fun t166 => ((pack_Put.f t163 (IntKind.u64.wrap (t166)) 4).bind fun t167 => (if t167.length + l0.length < 140737488355328 then (some ((t167 ++ l0), 0)) else (none)))) = some (r1, r2) := H
        have A5 := Aside0.mk A50
        clear A50
        replace H := Option.bind_eq_some_iff.mp H
        obtain ⟨t166, A60, H⟩ := H
        replace H : ((pack_Put.f t163 (IntKind.u64.wrap (t166)) 4).bind fun t167 => (if t167.length + l0.length < 140737488355328 then (some ((t167 ++ l0), 0)) else (none))) = some (r1, r2) := H
        have A6 := Aside0.mk A60
        clear A60
        replace H := Option.bind_eq_some_iff.mp H
        obtain ⟨t167, A70, H⟩ := H
        replace H : (if t167.length + l0.length < 140737488355328 then (some ((t167 ++ l0), 0)) else (none)) = some (r1, r2) := H
        have A7 := Aside0.mk A70
        clear A70
        by_cases c8 : t167.length + l0.length < 140737488355328
        · rw [if_pos c8] at H
          have LMc8 := Aside0.mk c8
          clear c8
          obtain ⟨y170, hy170⟩ : ∃ y_ : List Int, y_ = (t167 ++ l0) := ⟨_, rfl⟩
          replace H : (some (y170, 0)) = some (r1, r2) := by first | (rw [hy170]; with_reducible exact H) | (have H2_ := (Option.bind_some _ _).symm.trans H; rw [hy170]; with_reducible exact H2_) | (have H2_ := (Option.bind_some _ _).symm.trans H; with_reducible exact H2_) | with_reducible exact H | (rw [hy170]; exact H) | exact H
          have Ny170 := Aside0.mk hy170
          clear hy170
          simp only [Option.some.injEq, Prod.mk.injEq] at H
          obtain ⟨rfl, rfl⟩ := H
          go_wp2_with (first | ((with_reducible refine gate_callee (f := 37) rfl ?_); refine goesL_ (some 16) rfl rfl Try.func37 (by kernel_rfl) rfl #[.slice none 0 0, .int .u64 (IntKind.u64.wrap ((l0.length : Int))), .int .i64 2] rfl (by (try simp only [List.map_toArray, List.map_cons, List.map_nil]); first | done | rfl | (simp only [List.length_drop, List.length_take]; rfl) | (rw [Go.Proofs.Ytdpodjgggicaoaa.H.u64_id _ (by simp only [decide_eq_false_iff_not, decide_eq_true_eq, Nat.not_lt, Int.not_lt] at *; omega) (by simp only [decide_eq_false_iff_not, decide_eq_true_eq, Nat.not_lt, Int.not_lt] at *; omega)]; rfl)) ?_; (refine (pack_Put.calls _ _ ([] : List Int) (IntKind.u64.wrap ((l0.length : Int))) 2 t163 _ ?side1 ?side2 A5.out).mono ?_); (case side1 => exact Kd.C_nil _ _); (case side2 => exact Nat.le_refl _); rintro e w9 ⟨v164, rfl, ho0, hb⟩; refine ⟨_, rfl, ?_⟩; have n0_ := Aside0.mk (Kd.R_lower ho0 (below_size (by repeat (first | (with_reducible first | exact HB.out | apply below_alloc | apply pw_below_drewN | apply below_drew1) | exact HB.out)))); have n1_ := Aside0.mk (below_step (by repeat (first | (with_reducible first | exact HB.out | apply below_alloc | apply pw_below_drewN | apply below_drew1) | exact HB.out)) hb); clear HB; have HO165 := n0_; have HB := n1_; clear n0_ n1_; (try clear hb); (try clear hb2); (try clear hk); (try clear hi); (try clear ho0)) | ((with_reducible refine gate_callee (f := 40) rfl ?_); refine goesL_ (some 18) rfl rfl Try.func40 (by kernel_rfl) rfl #[.slice A0 l0.length c0] rfl (by (try simp only [List.map_toArray, List.map_cons, List.map_nil]); first | done | rfl | (simp only [List.length_drop, List.length_take]; rfl) | (rw [Go.Proofs.Ytdpodjgggicaoaa.H.u64_id _ (by simp only [decide_eq_false_iff_not, decide_eq_true_eq, Nat.not_lt, Int.not_lt] at *; omega) (by simp only [decide_eq_false_iff_not, decide_eq_true_eq, Nat.not_lt, Int.not_lt] at *; omega)]; rfl)) ?_; (with_reducible refine (frame_sum.calls _ _ l0 t166 _ ?side1 ?side2 A6.out).mono ?_); (case side1 => repeat (first | exact (Kd.C_below HR0.out HB.out) | (with_reducible refine Kd.C_alloc ?_ _) | (with_reducible refine Kd.C_drewN ?_ _) | (with_reducible refine Kd.C_drew ?_))); (case side2 => exact HC0.out); rintro e w10 ⟨rfl, hb⟩; refine ⟨_, rfl, ?_⟩; have n0_ := Aside0.mk (Kd.R_below (by (with_reducible repeat (first | apply Kd.R_alloc | apply Kd.R_drewN | apply Kd.R_drew)); exact HO165.out) hb); have n1_ := Aside0.mk (below_step (by repeat (first | (with_reducible first | exact HB.out | apply below_alloc | apply pw_below_drewN | apply below_drew1) | exact HB.out)) hb); clear HO165; clear HB; have HO165 := n0_; have HB := n1_; clear n0_ n1_; (try clear hb); (try clear hb2); (try clear hk); (try clear hi); obtain ⟨Ao11, co11, eo11⟩ := Kd.R_slice HO165.out; subst eo11) | ((with_reducible refine gate_callee (f := 37) rfl ?_); refine goesL_ (some 20) rfl rfl Try.func37 (by kernel_rfl) rfl #[.slice Ao11 t163.length co11, .int .u64 (IntKind.u64.wrap (t166)), .int .i64 4] rfl (by (try simp only [List.map_toArray, List.map_cons, List.map_nil]); first | done | rfl | (simp only [List.length_drop, List.length_take]; rfl) | (rw [Go.Proofs.Ytdpodjgggicaoaa.H.u64_id _ (by simp only [decide_eq_false_iff_not, decide_eq_true_eq, Nat.not_lt, Int.not_lt] at *; omega) (by simp only [decide_eq_false_iff_not, decide_eq_true_eq, Nat.not_lt, Int.not_lt] at *; omega)]; rfl)) ?_; (with_reducible refine (pack_Put.calls _ _ t163 (IntKind.u64.wrap (t166)) 4 t167 _ ?side1 ?side2 A7.out).mono ?_); (case side1 => repeat (first | exact (Kd.R_reads' HO165.out).2.2 | (with_reducible refine Kd.C_alloc ?_ _) | (with_reducible refine Kd.C_drewN ?_ _) | (with_reducible refine Kd.C_drew ?_))); (case side2 => exact (Kd.R_reads' HO165.out).2.1); rintro e w12 ⟨v168, rfl, ho0, hb⟩; refine ⟨_, rfl, ?_⟩; have n0_ := Aside0.mk (Kd.R_elder' (by (with_reducible repeat (first | apply Kd.R_alloc | apply Kd.R_drewN | apply Kd.R_drew)); exact HO165.out) (Kd.R_base ho0) hb); have n1_ := Aside0.mk (Kd.R_lower (Kd.R_new' ho0 (Kd.R_lt (by (with_reducible repeat (first | apply Kd.R_alloc | apply Kd.R_drewN | apply Kd.R_drew)); exact HO165.out))) (below_size (by repeat (first | (with_reducible first | exact HB.out | apply below_alloc | apply pw_below_drewN | apply below_drew1) | exact HB.out)))); have n2_ := Aside0.mk (below_step (by repeat (first | (with_reducible first | exact HB.out | apply below_alloc | apply pw_below_drewN | apply below_drew1) | exact HB.out)) hb); clear HO165; clear HB; have HO165 := n0_; have HO169 := n1_; have HB := n2_; clear n0_ n1_ n2_; (try clear hb); (try clear hb2); (try clear hk); (try clear hi); (try clear ho0)) | ((with_reducible refine gate_builtin (b := .append) (xs := #[.tmp 21, .tmp 22]) rfl ?_); (try (refine gate_guard (by rfl) ?_; dsimp only)); at_builtin; refine Kd.R_append_rows (Kd.int .u8) (w0 := w) w.heap.size rfl (.tmp 21) (.tmp 22) 25 5 (.int .u8 0) 1 rfl Try.underlying25 info5 rfl (by decide) (by omega) v168 t167 l0 _ _ _ (fun k_ => some k_ ≠ (.slice Ao11 t163.length co11 : Value).ownBlock) (fun _ => False) rfl rfl ?aO ?aR (fun _ _ h => h) (fun _ h => h.elim) ?aF ?aB ?aS ?aL ?_; (case aR => repeat (first | exact (Kd.C_below HR0.out HB.out) | (with_reducible refine Kd.C_alloc ?_ _) | (with_reducible refine Kd.C_drewN ?_ _) | (with_reducible refine Kd.C_drew ?_))); (case aB => exact (by repeat (first | (with_reducible first | exact HB.out | apply below_alloc | apply pw_below_drewN | apply below_drew1) | exact HB.out))); (case aF => exact (fun k_ hk => Kd.fresh' (Kd.R_lt (by (with_reducible repeat (first | apply Kd.R_alloc | apply Kd.R_drewN | apply Kd.R_drew)); exact HO165.out)) k_ hk)); (case aO => exact (by (with_reducible repeat (first | apply Kd.R_alloc | apply Kd.R_drewN | apply Kd.R_drew)); exact Kd.R_mono HO169.out (fun _ hk => hk.2))); (case aS => exact (below_size (by repeat (first | (with_reducible first | exact HB.out | apply below_alloc | apply pw_below_drewN | apply below_drew1) | exact HB.out)))); (case aL => have := LMc8.out; omega); intro v171 w13 ho hb hg hat; rw [← Ny170.out] at ho; have n0_ := Aside0.mk (Kd.R_after (ok := (fun _ => True)) (by (with_reducible repeat (first | apply Kd.R_alloc | apply Kd.R_drewN | apply Kd.R_drew)); exact HO165.out) hg hat); have n1_ := Aside0.mk (hb); have n2_ := Aside0.mk (ho); clear HO165; clear HB; clear HO169; have HO165 := n0_; have HB := n1_; have HO172 := n2_; clear n0_ n1_ n2_; clear ho hb hg hat))
          go_ret2
          exact ⟨_, by first | rfl | (simp [errW_none, errW_some] <;> rfl) | (simp [*, errW_none, errW_some] <;> rfl), by (with_reducible repeat (first | apply Kd.R_alloc | apply Kd.R_drewN | apply Kd.R_drew)); exact Kd.R_mono HO172.out (fun _ hk => trivial), by repeat (first | (with_reducible first | exact HB.out | apply below_alloc | apply pw_below_drewN | apply below_drew1) | exact HB.out)⟩
        · rw [if_neg c8] at H
          exact absurd H (by simp)
def pack_there.f (l0 : List Int) (a1 : Int) (a2 : Int) : Option (Bool) := if a1 ≥ 0 then (if a1 ≤ (l0.length : Int) then (some (decide ((wrap64 ((l0.length : Int) - a1)) ≥ a2))) else (some false)) else (some false)
set_option maxHeartbeats 8000000 in
set_option maxRecDepth 100000 in
theorem pack_there.calls (A0 : Option Addr) (c0 : Nat) (l0 : List Int) (a1 : Int) (a2 : Int) (r : Bool) (w : World) (hr0 : Kd.C (Kd.int .u8) w A0 l0.length l0) (hc0 : l0.length ≤ c0) (h : pack_there.f l0 a1 a2 = some r) :
    Calls Try.prog 61 #[.slice A0 l0.length c0, .int .i64 a1, .int .i64 a2] w fun e w' => e = .returned (.bool r) ∧ Drawn0 w w' := by
  have HR0 := Aside0.mk hr0
  have HC0 := Aside0.mk hc0
  clear hr0 hc0
  have H : (if a1 ≥ 0 then (if a1 ≤ (l0.length : Int) then (some (decide ((wrap64 ((l0.length : Int) - a1)) ≥ a2))) else (some false)) else (some false)) = some r := h
  clear h
  by_cases c4 : a1 ≥ 0
  · rw [if_pos c4] at H
    have c4b0 : decide (0 ≤ a1) = true := decide_eq_true c4
    clear c4
    by_cases c5 : a1 ≤ (l0.length : Int)
    · rw [if_pos c5] at H
      have c5b0 : decide (a1 ≤ (l0.length : Int)) = true := decide_eq_true c5
      clear c5
      obtain rfl := Option.some.inj H
      go_enter Try.func61, Try.ntmps61
      go_wp2
      go_ret
      exact ⟨by first | rfl | (simp; done) | (simp [*]; done), by repeat (first | exact Drawn0.refl _ | apply Drawn0.step)⟩
    · rw [if_neg c5] at H
      have c5b0 : decide (a1 ≤ (l0.length : Int)) = false := decide_eq_false c5
      clear c5
      obtain rfl := Option.some.inj H
      go_enter Try.func61, Try.ntmps61
      go_wp2
      go_ret
      exact ⟨by first | rfl | (simp; done) | (simp [*]; done), by repeat (first | exact Drawn0.refl _ | apply Drawn0.step)⟩
  · rw [if_neg c4] at H
    have c4b0 : decide (0 ≤ a1) = false := decide_eq_false c4
    clear c4
    obtain rfl := Option.some.inj H
    go_enter Try.func61, Try.ntmps61
    go_wp2
    go_ret
    exact ⟨by first | rfl | (simp; done) | (simp [*]; done), by repeat (first | exact Drawn0.refl _ | apply Drawn0.step)⟩
def pack_Get.l0 : Nat → List Int → Int → Int → Int → Option (Int × Bool)
  | 0, _, _, _, _ => none
  | k + 1, x0, x1, x9, x10 => if x10 ≥ 0 then (if 0 ≤ (wrap64 (x1 + x10)) then (if (wrap64 (x1 + x10)) < (x0.length : Int) then (pack_Get.l0 k x0 x1 (Go.bits .or .u64 (IntKind.u64.wrap (x9 * 256)) (IntKind.u64.wrap (rd x0 (wrap64 (x1 + x10))))) (wrap64 (x10 - 1))) else (none)) else (none)) else (some (x9, true))
def pack_Get.f (k : Nat) (l0 : List Int) (a1 : Int) (a2 : Int) : Option (Int × Bool) := (pack_count.f a2).bind fun t173 => ((pack_there.f l0 a1 t173).bind fun t174 => (if t174 = true then (pack_Get.l0 k l0 a1 0 (wrap64 (t173 - 1))) else (some (0, false))))
theorem pack_Get.mono_l : ∀ k, (∀ y0 y1 y2 y3, LeO (pack_Get.l0 k y0 y1 y2 y3) (pack_Get.l0 (k + 1) y0 y1 y2 y3))
  | 0 => fun _ _ _ _ r h => by simp [pack_Get.l0] at h
  | k + 1 => by
    have ih0 := pack_Get.mono_l k
    · intro y0 y1 y2 y3
      unfold pack_Get.l0
      repeat' first
      | (with_reducible exact ih0 _ _ _ _)
      | (with_reducible exact LeO.refl _)
      | (with_reducible exact LeO.none _)
      | (with_reducible refine LeO.ite ?_ ?_)
      | (with_reducible refine LeO.bind ?_ (fun _ => ?_))
      | exact ih0 _ _ _ _
      | exact LeO.none _
      | refine LeO.ite ?_ ?_
      | refine LeO.bind ?_ (fun _ => ?_)
theorem pack_Get.mono : ∀ a0 a1 a2 k, LeO (pack_Get.f k a0 a1 a2) (pack_Get.f (k + 1) a0 a1 a2) := by
  intro a0 a1 a2 k
  have ih0 := pack_Get.mono_l k
  unfold pack_Get.f
  repeat' first
      | (with_reducible exact ih0 _ _ _ _)
      | (with_reducible exact LeO.refl _)
      | (with_reducible exact LeO.none _)
      | (with_reducible refine LeO.ite ?_ ?_)
      | (with_reducible refine LeO.bind ?_ (fun _ => ?_))
      | exact ih0 _ _ _ _
      | exact LeO.none _
      | refine LeO.ite ?_ ?_
      | refine LeO.bind ?_ (fun _ => ?_)
set_option maxHeartbeats 8000000 in
set_option maxRecDepth 100000 in
theorem pack_Get.calls (k : Nat) (A0 : Option Addr) (c0 : Nat) (l0 : List Int) (a1 : Int) (a2 : Int) (r1 : Int) (r2 : Bool) (w : World) (hr0 : Kd.C (Kd.int .u8) w A0 l0.length l0) (hc0 : l0.length ≤ c0) (h : pack_Get.f k l0 a1 a2 = some (r1, r2)) :
    Calls Try.prog 43 #[.slice A0 l0.length c0, .int .i64 a1, .int .i64 a2] w fun e w' => e = .returned (.tuple #[.int .u64 r1, .bool r2]) ∧ Below w.heap.size w w' := by
  have HR0 := Aside0.mk hr0
  have HC0 := Aside0.mk hc0
  clear hr0 hc0
  have HB := Aside0.mk (Below.refl w.heap.size w)
  have H : ((pack_count.f a2).bind fun t173 => ((pack_there.f l0 a1 t173).bind fun t174 => (if t174 = true then (pack_Get.l0 k l0 a1 0 (wrap64 (t173 - 1))) else (some (0, false))))) = some (r1, r2) := h
  clear h
  replace H := Option.bind_eq_some_iff.mp H
  obtain ⟨t173, A40, H⟩ := H
  replace H : ((pack_there.f l0 a1 t173).bind fun t174 => (if t174 = true then (pack_Get.l0 k l0 a1 0 (wrap64 (t173 - 1))) else (some (0, false)))) = some (r1, r2) := H
  have A4 := Aside0.mk A40
  clear A40
  replace H := Option.bind_eq_some_iff.mp H
  obtain ⟨t174, A50, H⟩ := H
  replace H : (if t174 = true then (pack_Get.l0 k l0 a1 0 (wrap64 (t173 - 1))) else (some (0, false))) = some (r1, r2) := H
  have A5 := Aside0.mk A50
  clear A50
  by_cases c6 : t174 = true
  · subst c6
    have H1 : (pack_Get.l0 k l0 a1 0 (wrap64 (t173 - 1))) = some (r1, r2) := by rw [if_pos rfl] at H; exact H
    clear H
    have H := H1
    clear H1
    have H' := Aside0.mk H
    clear H
    go_enter Try.func43, Try.ntmps43
    go_wp2_with (first | ((with_reducible refine gate_callee (f := 55) rfl ?_); refine goesL_ (some 12) rfl rfl Try.func55 (by kernel_rfl) rfl #[.int .i64 a2] rfl (by (try simp only [List.map_toArray, List.map_cons, List.map_nil]); first | done | rfl | (simp only [List.length_drop, List.length_take]; rfl) | (rw [Go.Proofs.Ytdpodjgggicaoaa.H.u64_id _ (by simp only [decide_eq_false_iff_not, decide_eq_true_eq, Nat.not_lt, Int.not_lt] at *; omega) (by simp only [decide_eq_false_iff_not, decide_eq_true_eq, Nat.not_lt, Int.not_lt] at *; omega)]; rfl)) ?_; (with_reducible refine (pack_count.calls a2 t173 _ A4.out).mono ?_); rintro e w7 ⟨rfl, hb⟩; refine ⟨_, rfl, ?_⟩; have n0_ := Aside0.mk (below_step (by repeat (first | (with_reducible first | exact HB.out | apply below_alloc | apply pw_below_drewN | apply below_drew1) | exact HB.out)) hb); clear HB; have HB := n0_; clear n0_; (try clear hb); (try clear hb2); (try clear hk); (try clear hi)) | ((with_reducible refine gate_callee (f := 61) rfl ?_); refine goesL_ (some 16) rfl rfl Try.func61 (by kernel_rfl) rfl #[.slice A0 l0.length c0, .int .i64 a1, .int .i64 t173] rfl (by (try simp only [List.map_toArray, List.map_cons, List.map_nil]); first | done | rfl | (simp only [List.length_drop, List.length_take]; rfl) | (rw [Go.Proofs.Ytdpodjgggicaoaa.H.u64_id _ (by simp only [decide_eq_false_iff_not, decide_eq_true_eq, Nat.not_lt, Int.not_lt] at *; omega) (by simp only [decide_eq_false_iff_not, decide_eq_true_eq, Nat.not_lt, Int.not_lt] at *; omega)]; rfl)) ?_; (with_reducible refine (pack_there.calls _ _ l0 a1 t173 true _ ?side1 ?side2 A5.out).mono ?_); (case side1 => repeat (first | exact (Kd.C_below HR0.out HB.out) | (with_reducible refine Kd.C_alloc ?_ _) | (with_reducible refine Kd.C_drewN ?_ _) | (with_reducible refine Kd.C_drew ?_))); (case side2 => exact HC0.out); rintro e w' ⟨rfl, ⟨nd, rfl⟩⟩; refine ⟨_, rfl, ?_⟩))
    go_loopg [9, 10] k (fun kq v9 v10 w' => ∃ (x9_1 : Int) (x10_1 : Int), v9 = .int .u64 x9_1 ∧ v10 = .int .i64 x10_1 ∧ Aside0 (pack_Get.l0 kq l0 a1 x9_1 x10_1 = some (r1, r2)) ∧ Aside0 (kq ≤ k) ∧ Aside0 (Below w.heap.size w w'))
    case atStart => exact ⟨(0), (wrap64 (t173 - 1)), (by first | rfl | (simp; done) | (simp [*]; done)), (by first | rfl | (simp; done) | (simp [*]; done)), H', ⟨Nat.le_refl _⟩, ⟨by repeat (first | (with_reducible first | exact HB.out | apply below_alloc | apply pw_below_drewN | apply below_drew1) | exact HB.out)⟩⟩
    case round =>
      clear H'
      try clear p2
      try clear c4
      try clear c5
      try clear c6
      try clear p6
      obtain ⟨x9_1, x10_1, rfl, rfl, HA, HK1, HB⟩ := hrel
      cases gk with
      | zero => exact absurd HA.out (by simp [pack_Get.l0])
      | succ k1 =>
        have H := HA.out
        clear HA
        simp only [pack_Get.l0] at H
        by_cases c8 : x10_1 ≥ 0
        · rw [if_pos c8] at H
          have c8b0 : decide (0 ≤ x10_1) = true := decide_eq_true c8
          clear c8
          obtain ⟨ji9, hji9⟩ : ∃ j_ : Int, (wrap64 (a1 + x10_1)) = j_ := ⟨_, rfl⟩
          replace H : (if 0 ≤ (ji9) then (if (ji9) < (l0.length : Int) then (pack_Get.l0 k1 l0 a1 (Go.bits .or .u64 (IntKind.u64.wrap (x9_1 * 256)) (IntKind.u64.wrap (rd l0 (ji9)))) (wrap64 (x10_1 - 1))) else (none)) else (none)) = some (r1, r2) := by first | (rw [hji9] at H; exact H) | (simp only [hji9] at H ⊢; exact H)
          have hji9w : (IntKind.i64.wrap (a1 + x10_1)) = ji9 := (i64_w _).trans hji9
          by_cases c10 : 0 ≤ (ji9)
          · rw [if_pos c10] at H
            have c10b0 : decide (0 ≤ (ji9)) = true := decide_eq_true c10
            clear c10
            by_cases c11 : (ji9) < (l0.length : Int)
            · rw [if_pos c11] at H
              have c11b0 : decide ((ji9) < (l0.length : Int)) = true := decide_eq_true c11
              clear c11
              have H' := Aside0.mk H
              clear H
              have p175 : 0 ≤ ((ji9) : Int) := of_decide_eq_true (by first | (with_reducible assumption) | assumption)
              have q175 : (ji9) < (l0.length : Int) := of_decide_eq_true (by first | (with_reducible assumption) | assumption)
              obtain ⟨ad175, e175, hx175_0⟩ := Kd.at_int HR0.out (ji9) p175 q175
              cases e175
              replace hx175_0 := (HB.out.cell (World.block_lt_of_cell? w _ hx175_0)).trans hx175_0
              replace p175 := eq_true p175
              replace q175 := eq_true q175
              go_wp2
              go_roundg k1
              case measure => have := HK1.out; omega
              case rel => exact ⟨(Go.bits .or .u64 (IntKind.u64.wrap (x9_1 * 256)) (IntKind.u64.wrap (rd l0 (ji9)))), (wrap64 (x10_1 - 1)), (by first | rfl | (simp; done) | (simp only [← hji9] <;> (first | rfl | simp)) | (simp [*]; done)), (by first | rfl | (simp; done) | (simp [*]; done)), H', ⟨by have := HK1.out; omega⟩, ⟨by repeat (first | (with_reducible first | exact HB.out | apply below_alloc | apply pw_below_drewN | apply below_drew1) | exact HB.out)⟩⟩
            · rw [if_neg c11] at H
              exact absurd H (by simp)
          · rw [if_neg c10] at H
            exact absurd H (by simp)
        · rw [if_neg c8] at H
          have c8b0 : decide (0 ≤ x10_1) = false := decide_eq_false c8
          clear c8
          simp only [Option.some.injEq, Prod.mk.injEq] at H
          obtain ⟨rfl, rfl⟩ := H
          go_wp2
          go_ret2
          exact ⟨by first | rfl | (simp [errW_none, errW_some] <;> rfl) | (simp [*, errW_none, errW_some] <;> rfl), by repeat (first | (with_reducible first | exact HB.out | apply below_alloc | apply pw_below_drewN | apply below_drew1) | exact HB.out)⟩
  · replace c6 := Bool.eq_false_iff.mpr c6
    subst c6
    have H1 : (some (0, false)) = some (r1, r2) := by rw [if_neg (show ¬ (false = true) by decide)] at H; exact H
    clear H
    have H := H1
    clear H1
    simp only [Option.some.injEq, Prod.mk.injEq] at H
    obtain ⟨rfl, rfl⟩ := H
    go_enter Try.func43, Try.ntmps43
    go_wp2_with (first | ((with_reducible refine gate_callee (f := 55) rfl ?_); refine goesL_ (some 12) rfl rfl Try.func55 (by kernel_rfl) rfl #[.int .i64 a2] rfl (by (try simp only [List.map_toArray, List.map_cons, List.map_nil]); first | done | rfl | (simp only [List.length_drop, List.length_take]; rfl) | (rw [Go.Proofs.Ytdpodjgggicaoaa.H.u64_id _ (by simp only [decide_eq_false_iff_not, decide_eq_true_eq, Nat.not_lt, Int.not_lt] at *; omega) (by simp only [decide_eq_false_iff_not, decide_eq_true_eq, Nat.not_lt, Int.not_lt] at *; omega)]; rfl)) ?_; (with_reducible refine (pack_count.calls a2 t173 _ A4.out).mono ?_); rintro e w12 ⟨rfl, hb⟩; refine ⟨_, rfl, ?_⟩; have n0_ := Aside0.mk (below_step (by repeat (first | (with_reducible first | exact HB.out | apply below_alloc | apply pw_below_drewN | apply below_drew1) | exact HB.out)) hb); clear HB; have HB := n0_; clear n0_; (try clear hb); (try clear hb2); (try clear hk); (try clear hi)) | ((with_reducible refine gate_callee (f := 61) rfl ?_); refine goesL_ (some 16) rfl rfl Try.func61 (by kernel_rfl) rfl #[.slice A0 l0.length c0, .int .i64 a1, .int .i64 t173] rfl (by (try simp only [List.map_toArray, List.map_cons, List.map_nil]); first | done | rfl | (simp only [List.length_drop, List.length_take]; rfl) | (rw [Go.Proofs.Ytdpodjgggicaoaa.H.u64_id _ (by simp only [decide_eq_false_iff_not, decide_eq_true_eq, Nat.not_lt, Int.not_lt] at *; omega) (by simp only [decide_eq_false_iff_not, decide_eq_true_eq, Nat.not_lt, Int.not_lt] at *; omega)]; rfl)) ?_; (with_reducible refine (pack_there.calls _ _ l0 a1 t173 false _ ?side1 ?side2 A5.out).mono ?_); (case side1 => repeat (first | exact (Kd.C_below HR0.out HB.out) | (with_reducible refine Kd.C_alloc ?_ _) | (with_reducible refine Kd.C_drewN ?_ _) | (with_reducible refine Kd.C_drew ?_))); (case side2 => exact HC0.out); rintro e w' ⟨rfl, ⟨nd, rfl⟩⟩; refine ⟨_, rfl, ?_⟩))
    go_ret2
    exact ⟨by first | rfl | (simp [errW_none, errW_some] <;> rfl) | (simp [*, errW_none, errW_some] <;> rfl), by repeat (first | (with_reducible first | exact HB.out | apply below_alloc | apply pw_below_drewN | apply below_drew1) | exact HB.out)⟩
-- NOT PRINTED: function 64 (wire_numbers)
def slices_IndexFunc_byte_byte_idx (p : Int → Bool) (l : List Int) : Int := if l.any p = true then (l.findIdx p : Int) else -1
theorem slices_IndexFunc_byte_byte_hit (p : Int → Bool) (l : List Int) (k : Nat) (hk : k < l.length) (hp : p l[k] = true) (hn : ∀ j (h : j < l.length), j < k → p l[j] = false) : slices_IndexFunc_byte_byte_idx p l = (k : Int) := by
  unfold slices_IndexFunc_byte_byte_idx
  rw [if_pos (List.any_eq_true.2 ⟨_, List.getElem_mem hk, hp⟩)]
  congr 1
  rw [List.findIdx_eq hk]
  exact ⟨hp, fun j hj => by simpa using hn j (by omega) hj⟩
theorem slices_IndexFunc_byte_byte_miss (p : Int → Bool) (l : List Int) (hn : ∀ j (h : j < l.length), p l[j] = false) : slices_IndexFunc_byte_byte_idx p l = -1 := by
  unfold slices_IndexFunc_byte_byte_idx
  rw [if_neg]
  intro h
  obtain ⟨x, hx, hp⟩ := List.any_eq_true.1 h
  obtain ⟨j, hj, rfl⟩ := List.getElem_of_mem hx
  rw [hn j hj] at hp
  exact absurd hp (by decide)
set_option maxHeartbeats 8000000 in
set_option maxRecDepth 100000 in
theorem slices_IndexFunc_byte_byte.calls (A0 : Option Addr) (c0 : Nat) (l0 : List Int) (p : Int → Bool) (g : Nat) (lb : Array Value) (eg : ∀ args w, (callFunc g args).run Try.prog w = .ok (.enter g args) w) (w : World) (hr0 : Kd.C (Kd.int .u8) w A0 l0.length l0)
    (hp : ∀ (W : World) (x : Int), x ∈ l0 → Below w.heap.size w W → Calls Try.prog g (#[(fun x : Int => (.int .u8 x : Value)) x] ++ lb) W fun e w' => e = .returned (.bool (p x)) ∧ Below w.heap.size w w') :
    Calls Try.prog 73 #[.slice A0 l0.length c0, .func (.func g) #[] lb] w fun e w' => e = .returned (.int .i64 (slices_IndexFunc_byte_byte_idx p l0)) ∧ Below w.heap.size w w' := by
  have HR0 := Aside0.mk hr0
  have HP := Aside0.mk hp
  have HB := Aside0.mk (Below.refl w.heap.size w)
  have hmax : l0.length ≤ 9223372036854775807 := Kd.C_max hr0
  clear hr0 hp
  go_enter Try.func73, Try.ntmps73
  go_wp2
  go_loopg [5, 8] l0.length (fun gg _ s8 wr => ∃ k : Nat, k ≤ l0.length ∧ l0.length - k ≤ gg ∧ s8 = .int .i64 k ∧ Aside0 (Below w.heap.size w wr) ∧ Aside0 (∀ j (h : j < l0.length), j < k → p l0[j] = false))
  case atStart => exact ⟨0, Nat.zero_le _, by omega, rfl, HB, ⟨fun j _ hj => absurd hj (Nat.not_lt_zero _)⟩⟩
  case round =>
    obtain ⟨k, hk, hg, rfl, HBr, HN⟩ := hrel
    by_cases hlt : k < l0.length
    · have hltz : (k : Int) < (l0.length : Int) := by omega
      obtain ⟨ad, e, hx0⟩ := Kd.at_int HR0.out (k : Int) (by omega) (by omega)
      cases e
      replace hx0 := (HBr.out.cell (World.block_lt_of_cell? w _ hx0)).trans hx0; simp only [Int.toNat_natCast] at hx0
      skip
      have hcall := HP.out wr l0[k] (List.getElem_mem hlt) HBr.out
      have hy : rd l0 (k : Int) = l0[k] := by first | (simp [rd, rdOf, List.getD_eq_getElem?_getD, List.getElem?_eq_getElem hlt]; done) | (show l0.getD _ _ = _; simp [List.getD_eq_getElem?_getD, List.getElem?_eq_getElem hlt])
      have HY := Aside0.mk hy
      generalize hz : l0[k] = y at hcall hy
      rw [hy] at hx0
      have HZ := Aside0.mk hz
      clear hy hz
      cases hq : p y with
      | true =>
        rw [hq] at hcall
        go_wp2_with (go_at_fn g; refine hcall.mono ?_; rintro e w' ⟨rfl, hb'⟩)
        go_ret
        refine ⟨?_, hb'⟩
        rw [slices_IndexFunc_byte_byte_hit p l0 k hlt (by rw [HZ.out]; exact hq) HN.out]
        rfl
      | false =>
        rw [hq] at hcall
        go_wp2_with (go_at_fn g; refine hcall.mono ?_; rintro e w' ⟨rfl, hb'⟩)
        go_roundg (l0.length - (k + 1))
        case measure => omega
        case rel =>
          refine ⟨k + 1, by omega, by omega, by go_num, ⟨hb'⟩, ⟨fun j h hj => ?_⟩⟩
          by_cases e : j = k
          · subst e
            rw [HZ.out]; exact hq
          · exact HN.out j h (by omega)
    · have hltz : ¬ (k : Int) < (l0.length : Int) := by omega
      have HK := Aside0.mk (show k = l0.length by omega)
      go_wp2
      go_ret
      refine ⟨?_, HBr.out⟩
      rw [slices_IndexFunc_byte_byte_miss p l0 (fun j h => HN.out j h (by rw [HK.out]; exact h))]
      rfl
def slices_ContainsFunc_byte_byte.f (l0 : List Int) (a1 : Nat) : Option Bool := if a1 = 71 then some (l0.any fun c => c != 0) else none
theorem slices_ContainsFunc_byte_byte_pred (w W : World) (x : Int) (hb : Below w.heap.size w W) : Calls Try.prog 71 (#[.int .u8 x] ++ #[]) W fun e w' => e = .returned (.bool (x != 0)) ∧ Below w.heap.size w w' := by
  have HB := Aside0.mk hb
  clear hb
  show Calls Try.prog 71 #[.int .u8 x] W _
  go_enter Try.func71, Try.ntmps71
  go_wp2
  go_ret
  exact ⟨rfl, HB.out⟩
set_option maxHeartbeats 8000000 in
set_option maxRecDepth 100000 in
theorem slices_ContainsFunc_byte_byte.calls (A0 : Option Addr) (c0 : Nat) (l0 : List Int) (a1 : Nat) (r : Bool) (w : World) (hr0 : Kd.C (Kd.int .u8) w A0 l0.length l0) (hc0 : l0.length ≤ c0) (h : slices_ContainsFunc_byte_byte.f l0 a1 = some r) :
    Calls Try.prog 70 #[.slice A0 l0.length c0, .func (.func a1) #[] #[]] w fun e w' => e = .returned (.bool r) ∧ Below w.heap.size w w' := by
  unfold slices_ContainsFunc_byte_byte.f at h
  by_cases ha : a1 = 71
  · rw [if_pos ha] at h
    subst ha
    obtain rfl := Option.some.inj h
    have hany : decide (0 ≤ slices_IndexFunc_byte_byte_idx (fun c => c != 0) l0) = l0.any (fun c => c != 0) := by
      unfold slices_IndexFunc_byte_byte_idx
      by_cases h : l0.any (fun c => c != 0) = true
      · rw [if_pos h, h]; exact decide_eq_true (by omega)
      · rw [if_neg h, Bool.eq_false_iff.2 h]; rfl
    have HA := Aside0.mk hany
    have hcall := slices_IndexFunc_byte_byte.calls A0 c0 l0 (fun c => c != 0) 71 #[] (fun args w => enters_ (P := Try.prog) Try.func71 (by kernel_rfl) rfl args w) w hr0 (fun W x _ hb => slices_ContainsFunc_byte_byte_pred w W x hb)
    clear hany hr0 h
    go_enter Try.func70, Try.ntmps70
    go_wp2_with (go_at_call 73; refine hcall.mono ?_; rintro e w' ⟨rfl, hb'⟩)
    go_ret
    exact ⟨by first | rfl | (rw [← HA.out]; rfl), hb'⟩
  · rw [if_neg ha] at h
    exact absurd h (by simp)
def pack_GetText.j0 : Nat → List Int → Int → Bool → Option (ByteArray × Bool)
  | 0, _, _, _ => none
  | k + 1, x0, x1, x18 => if x18 = true then (some ((⟨#[]⟩ : ByteArray), false)) else (if 0 ≤ (wrap64 (x1 + 1)) then (if (wrap64 (x1 + 1)) ≤ (wrap64 (x1 + 17)) then (if (wrap64 (x1 + 17)) ≤ (x0.length : Int) then (if 0 ≤ x1 then (if x1 < (x0.length : Int) then (if 0 ≤ (wrap64 (rd x0 x1)) then (if (wrap64 (rd x0 x1)) ≤ (((x0.take ((wrap64 (x1 + 17)) : Int).toNat).drop ((wrap64 (x1 + 1)) : Int).toNat).length : Int) then ((slices_ContainsFunc_byte_byte.f (((x0.take ((wrap64 (x1 + 17)) : Int).toNat).drop ((wrap64 (x1 + 1)) : Int).toNat).drop ((wrap64 (rd x0 x1)) : Int).toNat) 71).bind fun t181 => (if t181 = true then (some ((⟨#[]⟩ : ByteArray), false)) else (some (strOfNums (((x0.take ((wrap64 (x1 + 17)) : Int).toNat).drop ((wrap64 (x1 + 1)) : Int).toNat).take ((wrap64 (rd x0 x1)) : Int).toNat), true)))) else (none)) else (none)) else (none)) else (none)) else (none)) else (none)) else (none))
def pack_GetText.f (k : Nat) (l0 : List Int) (a1 : Int) : Option (ByteArray × Bool) := (pack_there.f l0 a1 17).bind fun t176 => (if t176 = true then (if 0 ≤ a1 then (if a1 < (l0.length : Int) then (pack_GetText.j0 k l0 a1 (decide ((rd l0 a1) > 16))) else (none)) else (none)) else (pack_GetText.j0 k l0 a1 true))
theorem pack_GetText.mono_l : ∀ k, (∀ y0 y1 y2, LeO (pack_GetText.j0 k y0 y1 y2) (pack_GetText.j0 (k + 1) y0 y1 y2))
  | 0 => fun _ _ _ r h => by simp [pack_GetText.j0] at h
  | k + 1 => by
    have ih0 := pack_GetText.mono_l k
    · intro y0 y1 y2
      unfold pack_GetText.j0
      repeat' first
      | (with_reducible exact ih0 _ _ _)
      | (with_reducible exact LeO.refl _)
      | (with_reducible exact LeO.none _)
      | (with_reducible refine LeO.ite ?_ ?_)
      | (with_reducible refine LeO.bind ?_ (fun _ => ?_))
      | exact ih0 _ _ _
      | exact LeO.none _
      | refine LeO.ite ?_ ?_
      | refine LeO.bind ?_ (fun _ => ?_)
theorem pack_GetText.mono : ∀ a0 a1 k, LeO (pack_GetText.f k a0 a1) (pack_GetText.f (k + 1) a0 a1) := by
  intro a0 a1 k
  have ih0 := pack_GetText.mono_l k
  unfold pack_GetText.f
  repeat' first
      | (with_reducible exact ih0 _ _ _)
      | (with_reducible exact LeO.refl _)
      | (with_reducible exact LeO.none _)
      | (with_reducible refine LeO.ite ?_ ?_)
      | (with_reducible refine LeO.bind ?_ (fun _ => ?_))
      | exact ih0 _ _ _
      | exact LeO.none _
      | refine LeO.ite ?_ ?_
      | refine LeO.bind ?_ (fun _ => ?_)
set_option maxHeartbeats 8000000 in
set_option maxRecDepth 100000 in
theorem pack_GetText.calls (k : Nat) (A0 : Option Addr) (c0 : Nat) (l0 : List Int) (a1 : Int) (r1 : ByteArray) (r2 : Bool) (w : World) (hr0 : Kd.C (Kd.int .u8) w A0 l0.length l0) (hc0 : l0.length ≤ c0) (h : pack_GetText.f k l0 a1 = some (r1, r2)) :
    Calls Try.prog 65 #[.slice A0 l0.length c0, .int .i64 a1] w fun e w' => e = .returned (.tuple #[.string r1, .bool r2]) ∧ Below w.heap.size w w' := by
  have HR0 := Aside0.mk hr0
  have HC0 := Aside0.mk hc0
  clear hr0 hc0
  have HB := Aside0.mk (Below.refl w.heap.size w)
  have H : ((pack_there.f l0 a1 17).bind fun t176 => (if t176 = true then (if 0 ≤ a1 then (if a1 < (l0.length : Int) then (pack_GetText.j0 k l0 a1 (decide ((rd l0 a1) > 16))) else (none)) else (none)) else (pack_GetText.j0 k l0 a1 true))) = some (r1, r2) := h
  clear h
  have HC3 := Aside0.mk H
  clear H
  go_enter Try.func65, Try.ntmps65
  go_upto_region 1 with (fail)
  go_cut [18] (fun v18 wc => ∃ (kq : Nat) (x18_2 : Bool), v18 = .bool x18_2 ∧ Aside0 (pack_GetText.j0 kq l0 a1 x18_2 = some (r1, r2)) ∧ Aside0 (kq ≤ k) ∧ Aside0 (Below w.heap.size w wc))
  case first =>
    have H := HC3.out
    clear HC3
    replace H := Option.bind_eq_some_iff.mp H
    obtain ⟨t176, A40, H⟩ := H
    replace H : (if t176 = true then (if 0 ≤ a1 then (if a1 < (l0.length : Int) then (pack_GetText.j0 k l0 a1 (decide ((rd l0 a1) > 16))) else (none)) else (none)) else (pack_GetText.j0 k l0 a1 true)) = some (r1, r2) := H
    have A4 := Aside0.mk A40
    clear A40
    by_cases c5 : t176 = true
    · subst c5
      have H1 : (if 0 ≤ a1 then (if a1 < (l0.length : Int) then (pack_GetText.j0 k l0 a1 (decide ((rd l0 a1) > 16))) else (none)) else (none)) = some (r1, r2) := by rw [if_pos rfl] at H; exact H
      clear H
      have H := H1
      clear H1
      by_cases c6 : 0 ≤ a1
      · rw [if_pos c6] at H
        have c6b0 : decide (0 ≤ a1) = true := decide_eq_true c6
        clear c6
        (first | rw [c6b0] | (simp only [i64_w, i32_w]; rw [c6b0]) | skip)
        by_cases c7 : a1 < (l0.length : Int)
        · rw [if_pos c7] at H
          have c7b0 : decide (a1 < (l0.length : Int)) = true := decide_eq_true c7
          clear c7
          have H' := Aside0.mk H
          clear H
          go_wp2_with (first | ((with_reducible refine gate_callee (f := 61) rfl ?_); refine goesL_ (some 10) rfl rfl Try.func61 (by kernel_rfl) rfl #[.slice A0 l0.length c0, .int .i64 a1, .int .i64 17] rfl (by (try simp only [List.map_toArray, List.map_cons, List.map_nil]); first | done | rfl | (simp only [List.length_drop, List.length_take]; rfl)) ?_; (with_reducible refine (pack_there.calls _ _ l0 a1 17 true _ ?side1 ?side2 A4.out).mono ?_); (case side1 => repeat (first | exact (Kd.C_below HR0.out HB.out) | (with_reducible refine Kd.C_alloc ?_ _) | (with_reducible refine Kd.C_drewN ?_ _) | (with_reducible refine Kd.C_drew ?_))); (case side2 => exact HC0.out); rintro e w' ⟨rfl, ⟨nd, rfl⟩⟩; refine ⟨_, rfl, ?_⟩; have p177 : 0 ≤ (a1 : Int) := of_decide_eq_true (by first | (with_reducible assumption) | assumption); have q177 : a1 < (l0.length : Int) := of_decide_eq_true (by first | (with_reducible assumption) | assumption); obtain ⟨ad177, e177, hx177_0⟩ := Kd.at_int HR0.out a1 p177 q177; cases e177; replace hx177_0 := (HB.out.cell (World.block_lt_of_cell? w _ hx177_0)).trans hx177_0; replace p177 := eq_true p177; replace q177 := eq_true q177))
          go_meet
          case rel => exact ⟨_, (decide ((rd l0 a1) > 16)), (by first | rfl | (simp; done) | (simp [*]; done)), H', ⟨by first | omega | exact Nat.le_refl _⟩, ⟨by repeat (first | (with_reducible first | exact HB.out | apply below_alloc | apply pw_below_drewN | apply below_drew1) | exact HB.out)⟩⟩
        · rw [if_neg c7] at H
          exact absurd H (by simp)
      · rw [if_neg c6] at H
        exact absurd H (by simp)
    · replace c5 := Bool.eq_false_iff.mpr c5
      subst c5
      have H1 : (pack_GetText.j0 k l0 a1 true) = some (r1, r2) := by rw [if_neg (show ¬ (false = true) by decide)] at H; exact H
      clear H
      have H := H1
      clear H1
      have H' := Aside0.mk H
      clear H
      go_wp2_with (first | ((with_reducible refine gate_callee (f := 61) rfl ?_); refine goesL_ (some 10) rfl rfl Try.func61 (by kernel_rfl) rfl #[.slice A0 l0.length c0, .int .i64 a1, .int .i64 17] rfl (by (try simp only [List.map_toArray, List.map_cons, List.map_nil]); first | done | rfl | (simp only [List.length_drop, List.length_take]; rfl)) ?_; (with_reducible refine (pack_there.calls _ _ l0 a1 17 false _ ?side1 ?side2 A4.out).mono ?_); (case side1 => repeat (first | exact (Kd.C_below HR0.out HB.out) | (with_reducible refine Kd.C_alloc ?_ _) | (with_reducible refine Kd.C_drewN ?_ _) | (with_reducible refine Kd.C_drew ?_))); (case side2 => exact HC0.out); rintro e w' ⟨rfl, ⟨nd, rfl⟩⟩; refine ⟨_, rfl, ?_⟩))
      go_meet
      case rel => exact ⟨_, (true), (by first | rfl | (simp; done) | (simp [*]; done)), H', ⟨by first | omega | exact Nat.le_refl _⟩, ⟨by repeat (first | (with_reducible first | exact HB.out | apply below_alloc | apply pw_below_drewN | apply below_drew1) | exact HB.out)⟩⟩
  case rest =>
    clear HC3
    try clear p1
    try clear q1
    try clear hx1
    try clear p2
    try clear c5
    try clear c6
    try clear c6b0
    try clear c7
    try clear c7b0
    try clear hx177_0
    try clear p177
    try clear q177
    obtain ⟨kq, x18_2, rfl, HA, HJ2, HB⟩ := hcut
    cases kq with
    | zero => exact absurd HA.out (by simp [pack_GetText.j0])
    | succ kj2 =>
      have H := HA.out
      clear HA
      simp only [pack_GetText.j0] at H
      by_cases c8 : x18_2 = true
      · subst c8
        have H1 : (some ((⟨#[]⟩ : ByteArray), false)) = some (r1, r2) := by rw [if_pos rfl] at H; exact H
        clear H
        have H := H1
        clear H1
        simp only [Option.some.injEq, Prod.mk.injEq] at H
        obtain ⟨rfl, rfl⟩ := H
        go_wp2
        go_ret2
        exact ⟨by first | rfl | (simp [errW_none, errW_some] <;> rfl) | (simp [*, errW_none, errW_some] <;> rfl), by repeat (first | (with_reducible first | exact HB.out | apply below_alloc | apply pw_below_drewN | apply below_drew1) | exact HB.out)⟩
      · replace c8 := Bool.eq_false_iff.mpr c8
        subst c8
        have H1 : (if 0 ≤ (wrap64 (a1 + 1)) then (if (wrap64 (a1 + 1)) ≤ (wrap64 (a1 + 17)) then (if (wrap64 (a1 + 17)) ≤ (l0.length : Int) then (if 0 ≤ a1 then (if a1 < (l0.length : Int) then (if 0 ≤ (wrap64 (rd l0 a1)) then (if (wrap64 (rd l0 a1)) ≤ (((l0.take ((wrap64 (a1 + 17)) : Int).toNat).drop ((wrap64 (a1 + 1)) : Int).toNat).length : Int) then ((slices_ContainsFunc_byte_byte.f (((l0.take ((wrap64 (a1 + 17)) : Int).toNat).drop ((wrap64 (a1 + 1)) : Int).toNat).drop ((wrap64 (rd l0 a1)) : Int).toNat) 71).bind fun t181 => (if t181 = true then (some ((⟨#[]⟩ : ByteArray), false)) else (some (strOfNums (((l0.take ((wrap64 (a1 + 17)) : Int).toNat).drop ((wrap64 (a1 + 1)) : Int).toNat).take ((wrap64 (rd l0 a1)) : Int).toNat), true)))) else (none)) else (none)) else (none)) else (none)) else (none)) else (none)) else (none)) = some (r1, r2) := by rw [if_neg (show ¬ (false = true) by decide)] at H; exact H
        clear H
        have H := H1
        clear H1
        obtain ⟨ji9, hji9⟩ : ∃ j_ : Int, (wrap64 (a1 + 1)) = j_ := ⟨_, rfl⟩
        replace H : (if 0 ≤ (ji9) then (if (ji9) ≤ (wrap64 (a1 + 17)) then (if (wrap64 (a1 + 17)) ≤ (l0.length : Int) then (if 0 ≤ a1 then (if a1 < (l0.length : Int) then (if 0 ≤ (wrap64 (rd l0 a1)) then (if (wrap64 (rd l0 a1)) ≤ (((l0.take ((wrap64 (a1 + 17)) : Int).toNat).drop ((ji9) : Int).toNat).length : Int) then ((slices_ContainsFunc_byte_byte.f (((l0.take ((wrap64 (a1 + 17)) : Int).toNat).drop ((ji9) : Int).toNat).drop ((wrap64 (rd l0 a1)) : Int).toNat) 71).bind fun t181 => (if t181 = true then (some ((⟨#[]⟩ : ByteArray), false)) else (some (strOfNums (((l0.take ((wrap64 (a1 + 17)) : Int).toNat).drop ((ji9) : Int).toNat).take ((wrap64 (rd l0 a1)) : Int).toNat), true)))) else (none)) else (none)) else (none)) else (none)) else (none)) else (none)) else (none)) = some (r1, r2) := by first | (rw [hji9] at H; exact H) | (simp only [hji9] at H ⊢; exact H)
        have hji9w : (IntKind.i64.wrap (a1 + 1)) = ji9 := (i64_w _).trans hji9
        by_cases c10 : 0 ≤ (ji9)
        · rw [if_pos c10] at H
          have c10b0 := eq_true c10
          have c10b1 : decide (0 ≤ (ji9)) = true := decide_eq_true c10
          clear c10
          by_cases c11 : (ji9) ≤ (wrap64 (a1 + 17))
          · rw [if_pos c11] at H
            have c11b0 := eq_true c11
            have c11b1 : decide ((ji9) ≤ (wrap64 (a1 + 17))) = true := decide_eq_true c11
            by_cases c12 : (wrap64 (a1 + 17)) ≤ (l0.length : Int)
            · rw [if_pos c12] at H
              have c12b0 := eq_true c12
              have c12b1 : decide ((wrap64 (a1 + 17)) ≤ (l0.length : Int)) = true := decide_eq_true c12
              by_cases c13 : 0 ≤ a1
              · rw [if_pos c13] at H
                have c13b0 : decide (0 ≤ a1) = true := decide_eq_true c13
                clear c13
                by_cases c14 : a1 < (l0.length : Int)
                · rw [if_pos c14] at H
                  have c14b0 : decide (a1 < (l0.length : Int)) = true := decide_eq_true c14
                  clear c14
                  obtain ⟨ji15, hji15⟩ : ∃ j_ : Int, (wrap64 (rd l0 a1)) = j_ := ⟨_, rfl⟩
                  replace H : (if 0 ≤ (ji15) then (if (ji15) ≤ (((l0.take ((wrap64 (a1 + 17)) : Int).toNat).drop ((ji9) : Int).toNat).length : Int) then ((slices_ContainsFunc_byte_byte.f (((l0.take ((wrap64 (a1 + 17)) : Int).toNat).drop ((ji9) : Int).toNat).drop ((ji15) : Int).toNat) 71).bind fun t181 => (if t181 = true then (some ((⟨#[]⟩ : ByteArray), false)) else (some (strOfNums (((l0.take ((wrap64 (a1 + 17)) : Int).toNat).drop ((ji9) : Int).toNat).take ((ji15) : Int).toNat), true)))) else (none)) else (none)) = some (r1, r2) := by first | (rw [hji15] at H; exact H) | (simp only [hji15] at H ⊢; exact H)
                  have hji15w : (IntKind.i64.wrap (rd l0 a1)) = ji15 := (i64_w _).trans hji15
                  by_cases c16 : 0 ≤ (ji15)
                  · rw [if_pos c16] at H
                    have c16b0 := eq_true c16
                    have c16b1 : decide (0 ≤ (ji15)) = true := decide_eq_true c16
                    clear c16
                    by_cases c17 : (ji15) ≤ (((l0.take ((wrap64 (a1 + 17)) : Int).toNat).drop ((ji9) : Int).toNat).length : Int)
                    · rw [if_pos c17] at H
                      have c17b0 := eq_true c17
                      (try (have c17b9 := c17b0; simp only [List.length_drop] at c17b9))
                      have c17b1 : decide ((ji15) ≤ (((l0.take ((wrap64 (a1 + 17)) : Int).toNat).drop ((ji9) : Int).toNat).length : Int)) = true := decide_eq_true c17
                      replace H := Option.bind_eq_some_iff.mp H
                      obtain ⟨t181, A180, H⟩ := H
                      replace H : (if t181 = true then (some ((⟨#[]⟩ : ByteArray), false)) else (some (strOfNums (((l0.take ((wrap64 (a1 + 17)) : Int).toNat).drop ((ji9) : Int).toNat).take ((ji15) : Int).toNat), true))) = some (r1, r2) := H
                      have A18 := Aside0.mk A180
                      clear A180
                      by_cases c19 : t181 = true
                      · subst c19
                        have H1 : (some ((⟨#[]⟩ : ByteArray), false)) = some (r1, r2) := by rw [if_pos rfl] at H; exact H
                        clear H
                        have H := H1
                        clear H1
                        simp only [Option.some.injEq, Prod.mk.injEq] at H
                        obtain ⟨rfl, rfl⟩ := H
                        obtain ⟨i020, hi020, _, hsz20, _⟩ := info_parts info5
                        obtain ⟨A20, hcut20, hA20, hC20⟩ := print_mid_of (P := Try.prog) (Value.int .u8) 0 25 5 .i64 .i64 Try.underlying25 hi020 hsz20 A0 c0 l0 (ji9) (wrap64 (a1 + 17)) (of_decide_eq_true (by first | (with_reducible assumption) | assumption)) (by first | omega | exact of_decide_eq_true (by first | (with_reducible assumption) | assumption)) (of_decide_eq_true (by first | (with_reducible assumption) | assumption)) HC0.out
                        have HR178 := Aside0.mk (Kd.C_of_reads (h1 := fun _ => rfl) (hA20 _ (Kd.reads_of_C HR0.out)))
                        have HC178 := Aside0.mk hC20
                        clear hA20 hC20 hi020 hsz20
                        have p179 : 0 ≤ (a1 : Int) := of_decide_eq_true (by first | (with_reducible assumption) | assumption)
                        have q179 : a1 < (l0.length : Int) := of_decide_eq_true (by first | (with_reducible assumption) | assumption)
                        obtain ⟨ad179, e179, hx179_0⟩ := Kd.at_int HR0.out a1 p179 q179
                        cases e179
                        replace hx179_0 := (HB.out.cell (World.block_lt_of_cell? w _ hx179_0)).trans hx179_0
                        replace p179 := eq_true p179
                        replace q179 := eq_true q179
                        obtain ⟨i021, hi021, _, hsz21, _⟩ := info_parts info5
                        obtain ⟨A21, hcut21, hA21, hC21⟩ := print_drop_of (P := Try.prog) (Value.int .u8) 0 25 5 .i64 Try.underlying25 hi021 hsz21 A20 (c0 - (ji9).toNat) ((l0.take ((wrap64 (a1 + 17)) : Int).toNat).drop ((ji9) : Int).toNat) (ji15) (of_decide_eq_true (by first | (with_reducible assumption) | assumption)) (of_decide_eq_true (by first | (with_reducible assumption) | assumption)) HC178.out
                        try rw [show ((l0.take ((wrap64 (a1 + 17)) : Int).toNat).drop ((ji9) : Int).toNat).length = ((wrap64 (a1 + 17)).toNat - (ji9).toNat) from (by rw [List.length_drop, List.length_take]; have h_ : ((wrap64 (a1 + 17)) : Int) ≤ (l0.length : Int) := of_decide_eq_true (by first | (with_reducible assumption) | assumption); omega)] at hcut21
                        have HR180 := Aside0.mk (Kd.C_of_reads (h1 := fun _ => rfl) (hA21 _ (Kd.reads_of_C HR178.out)))
                        have HC180 := Aside0.mk hC21
                        clear hA21 hC21 hi021 hsz21
                        go_wp2_with (first | ((with_reducible refine gate_callee (f := 70) rfl ?_); refine goesL_ (some 33) rfl rfl Try.func70 (by kernel_rfl) rfl #[.slice A21 (((l0.take ((wrap64 (a1 + 17)) : Int).toNat).drop ((ji9) : Int).toNat).drop ((ji15) : Int).toNat).length ((c0 - (ji9).toNat) - (ji15).toNat), .func (.func 71) #[] #[]] rfl (by (try simp only [List.map_toArray, List.map_cons, List.map_nil]); first | done | (rw [show (((l0.take ((wrap64 (a1 + 17)) : Int).toNat).drop ((ji9) : Int).toNat).drop ((ji15) : Int).toNat).length = ((wrap64 (a1 + 17)).toNat - ((ji9).toNat + (ji15).toNat)) from (by rw [List.length_drop, show ((l0.take ((wrap64 (a1 + 17)) : Int).toNat).drop ((ji9) : Int).toNat).length = ((wrap64 (a1 + 17)).toNat - (ji9).toNat) from (by rw [List.length_drop, List.length_take]; have h_ : ((wrap64 (a1 + 17)) : Int) ≤ (l0.length : Int) := of_decide_eq_true (by first | (with_reducible assumption) | assumption); omega)]; omega)] <;> rfl) | (simp only [hji15, hji9]; rfl) | rfl | (simp only [List.length_drop, List.length_take]; rfl)) ?_; (with_reducible refine (slices_ContainsFunc_byte_byte.calls _ _ (((l0.take ((wrap64 (a1 + 17)) : Int).toNat).drop ((ji9) : Int).toNat).drop ((ji15) : Int).toNat) 71 true _ ?side1 ?side2 A18.out).mono ?_); (case side1 => repeat (first | exact (Kd.C_below HR180.out HB.out) | (with_reducible refine Kd.C_alloc ?_ _) | (with_reducible refine Kd.C_drewN ?_ _) | (with_reducible refine Kd.C_drew ?_))); (case side2 => exact HC180.out); rintro e w22 ⟨rfl, hb⟩; refine ⟨_, rfl, ?_⟩; have n0_ := Aside0.mk (below_step (by repeat (first | (with_reducible first | exact HB.out | apply below_alloc | apply pw_below_drewN | apply below_drew1) | exact HB.out)) hb); clear HB; have HB := n0_; clear n0_; (try clear hb); (try clear hb2); (try clear hk); (try clear hi)))
                        go_ret2
                        exact ⟨by first | rfl | (simp [errW_none, errW_some] <;> rfl) | (simp only [← hji9, ← hji15]; first | rfl | (simp [errW_none, errW_some] <;> rfl)) | (simp [*, errW_none, errW_some] <;> rfl), by repeat (first | (with_reducible first | exact HB.out | apply below_alloc | apply pw_below_drewN | apply below_drew1) | exact HB.out)⟩
                      · replace c19 := Bool.eq_false_iff.mpr c19
                        subst c19
                        have H1 : (some (strOfNums (((l0.take ((wrap64 (a1 + 17)) : Int).toNat).drop ((ji9) : Int).toNat).take ((ji15) : Int).toNat), true)) = some (r1, r2) := by rw [if_neg (show ¬ (false = true) by decide)] at H; exact H
                        clear H
                        have H := H1
                        clear H1
                        have c23b0 := eq_true (of_decide_eq_true (by first | (with_reducible assumption) | assumption) : 0 ≤ (ji15))
                        have c24b0 := eq_true (of_decide_eq_true (by first | (with_reducible assumption) | assumption) : (ji15) ≤ (((l0.take ((wrap64 (a1 + 17)) : Int).toNat).drop ((ji9) : Int).toNat).length : Int))
                        simp only [Option.some.injEq, Prod.mk.injEq] at H
                        obtain ⟨rfl, rfl⟩ := H
                        obtain ⟨i025, hi025, _, hsz25, _⟩ := info_parts info5
                        obtain ⟨A25, hcut25, hA25, hC25⟩ := print_mid_of (P := Try.prog) (Value.int .u8) 0 25 5 .i64 .i64 Try.underlying25 hi025 hsz25 A0 c0 l0 (ji9) (wrap64 (a1 + 17)) (of_decide_eq_true (by first | (with_reducible assumption) | assumption)) (by first | omega | exact of_decide_eq_true (by first | (with_reducible assumption) | assumption)) (of_decide_eq_true (by first | (with_reducible assumption) | assumption)) HC0.out
                        have HR178 := Aside0.mk (Kd.C_of_reads (h1 := fun _ => rfl) (hA25 _ (Kd.reads_of_C HR0.out)))
                        have HC178 := Aside0.mk hC25
                        clear hA25 hC25 hi025 hsz25
                        have p179 : 0 ≤ (a1 : Int) := of_decide_eq_true (by first | (with_reducible assumption) | assumption)
                        have q179 : a1 < (l0.length : Int) := of_decide_eq_true (by first | (with_reducible assumption) | assumption)
                        obtain ⟨ad179, e179, hx179_0⟩ := Kd.at_int HR0.out a1 p179 q179
                        cases e179
                        replace hx179_0 := (HB.out.cell (World.block_lt_of_cell? w _ hx179_0)).trans hx179_0
                        replace p179 := eq_true p179
                        replace q179 := eq_true q179
                        obtain ⟨i026, hi026, _, hsz26, _⟩ := info_parts info5
                        obtain ⟨A26, hcut26, hA26, hC26⟩ := print_drop_of (P := Try.prog) (Value.int .u8) 0 25 5 .i64 Try.underlying25 hi026 hsz26 A25 (c0 - (ji9).toNat) ((l0.take ((wrap64 (a1 + 17)) : Int).toNat).drop ((ji9) : Int).toNat) (ji15) (of_decide_eq_true (by first | (with_reducible assumption) | assumption)) (of_decide_eq_true (by first | (with_reducible assumption) | assumption)) HC178.out
                        try rw [show ((l0.take ((wrap64 (a1 + 17)) : Int).toNat).drop ((ji9) : Int).toNat).length = ((wrap64 (a1 + 17)).toNat - (ji9).toNat) from (by rw [List.length_drop, List.length_take]; have h_ : ((wrap64 (a1 + 17)) : Int) ≤ (l0.length : Int) := of_decide_eq_true (by first | (with_reducible assumption) | assumption); omega)] at hcut26
                        have HR180 := Aside0.mk (Kd.C_of_reads (h1 := fun _ => rfl) (hA26 _ (Kd.reads_of_C HR178.out)))
                        have HC180 := Aside0.mk hC26
                        clear hA26 hC26 hi026 hsz26
                        go_wp2_with (first | ((with_reducible refine gate_callee (f := 70) rfl ?_); refine goesL_ (some 33) rfl rfl Try.func70 (by kernel_rfl) rfl #[.slice A26 (((l0.take ((wrap64 (a1 + 17)) : Int).toNat).drop ((ji9) : Int).toNat).drop ((ji15) : Int).toNat).length ((c0 - (ji9).toNat) - (ji15).toNat), .func (.func 71) #[] #[]] rfl (by (try simp only [List.map_toArray, List.map_cons, List.map_nil]); first | done | (rw [show (((l0.take ((wrap64 (a1 + 17)) : Int).toNat).drop ((ji9) : Int).toNat).drop ((ji15) : Int).toNat).length = ((wrap64 (a1 + 17)).toNat - ((ji9).toNat + (ji15).toNat)) from (by rw [List.length_drop, show ((l0.take ((wrap64 (a1 + 17)) : Int).toNat).drop ((ji9) : Int).toNat).length = ((wrap64 (a1 + 17)).toNat - (ji9).toNat) from (by rw [List.length_drop, List.length_take]; have h_ : ((wrap64 (a1 + 17)) : Int) ≤ (l0.length : Int) := of_decide_eq_true (by first | (with_reducible assumption) | assumption); omega)]; omega)] <;> rfl) | (simp only [hji15, hji9]; rfl) | rfl | (simp only [List.length_drop, List.length_take]; rfl)) ?_; (with_reducible refine (slices_ContainsFunc_byte_byte.calls _ _ (((l0.take ((wrap64 (a1 + 17)) : Int).toNat).drop ((ji9) : Int).toNat).drop ((ji15) : Int).toNat) 71 false _ ?side1 ?side2 A18.out).mono ?_); (case side1 => repeat (first | exact (Kd.C_below HR180.out HB.out) | (with_reducible refine Kd.C_alloc ?_ _) | (with_reducible refine Kd.C_drewN ?_ _) | (with_reducible refine Kd.C_drew ?_))); (case side2 => exact HC180.out); rintro e w27 ⟨rfl, hb⟩; refine ⟨_, rfl, ?_⟩; have n0_ := Aside0.mk (below_step (by repeat (first | (with_reducible first | exact HB.out | apply below_alloc | apply pw_below_drewN | apply below_drew1) | exact HB.out)) hb); clear HB; have HB := n0_; clear n0_; (try clear hb); (try clear hb2); (try clear hk); (try clear hi); obtain ⟨i028, hi028, _, hsz28, _⟩ := info_parts info5; obtain ⟨hcut28, hA28, hC28⟩ := print_take_of (P := Try.prog) (Value.int .u8) 0 25 5 .i64 Try.underlying25 hi028 hsz28 A25 (c0 - (ji9).toNat) ((l0.take ((wrap64 (a1 + 17)) : Int).toNat).drop ((ji9) : Int).toNat) (ji15) (of_decide_eq_true (by first | (with_reducible assumption) | assumption)) (of_decide_eq_true (by first | (with_reducible assumption) | assumption)) HC178.out; try rw [show ((l0.take ((wrap64 (a1 + 17)) : Int).toNat).drop ((ji9) : Int).toNat).length = ((wrap64 (a1 + 17)).toNat - (ji9).toNat) from (by rw [List.length_drop, List.length_take]; have h_ : ((wrap64 (a1 + 17)) : Int) ≤ (l0.length : Int) := of_decide_eq_true (by first | (with_reducible assumption) | assumption); omega)] at hcut28; have HR182 := Aside0.mk (Kd.C_of_reads (h1 := fun _ => rfl) (hA28 _ (Kd.reads_of_C HR178.out))); have HC182 := Aside0.mk hC28; clear hA28 hC28 hi028 hsz28; have hcv29 := Kd.C_string (P := Try.prog) (A := A25) (c := (c0 - (ji9).toNat)) Try.underlying25 Try.underlying5 Try.underlying9 (Kd.C_below HR182.out HB.out); have hcw29 := fun n_ : Nat => Kd.C_string (P := Try.prog) (A := A25) (c := (c0 - (ji9).toNat)) Try.underlying25 Try.underlying5 Try.underlying9 (Kd.C_drewN (Kd.C_below HR182.out HB.out) n_); try rw [show (((l0.take ((wrap64 (a1 + 17)) : Int).toNat).drop ((ji9) : Int).toNat).take ((ji15) : Int).toNat).length = (min (ji15).toNat ((wrap64 (a1 + 17)).toNat - (ji9).toNat)) from (by rw [List.length_take, show ((l0.take ((wrap64 (a1 + 17)) : Int).toNat).drop ((ji9) : Int).toNat).length = ((wrap64 (a1 + 17)).toNat - (ji9).toNat) from (by rw [List.length_drop, List.length_take]; have h_ : ((wrap64 (a1 + 17)) : Int) ≤ (l0.length : Int) := of_decide_eq_true (by first | (with_reducible assumption) | assumption); omega)])] at hcv29 hcw29))
                        go_ret2
                        exact ⟨by first | rfl | (simp [errW_none, errW_some] <;> rfl) | (simp only [← hji9, ← hji15]; first | rfl | (simp [errW_none, errW_some] <;> rfl)) | (simp [*, errW_none, errW_some] <;> rfl), by repeat (first | (with_reducible first | exact HB.out | apply below_alloc | apply pw_below_drewN | apply below_drew1) | exact HB.out)⟩
                    · rw [if_neg c17] at H
                      exact absurd H (by simp)
                  · rw [if_neg c16] at H
                    exact absurd H (by simp)
                · rw [if_neg c14] at H
                  exact absurd H (by simp)
              · rw [if_neg c13] at H
                exact absurd H (by simp)
            · rw [if_neg c12] at H
              exact absurd H (by simp)
          · rw [if_neg c11] at H
            exact absurd H (by simp)
        · rw [if_neg c10] at H
          exact absurd H (by simp)
end Go.Proofs.Ytdpodjgggicaoaa.SO
