-- WRITTEN FOR THIS CLAIM by wip/tools/mp.py, a program of this project that drives the kit's print; the functions that the print does not take are this project's own texts.
import Derived.Test.YtdpodjgggicaoaaSSx0q
namespace Go.Proofs.Ytdpodjgggicaoaa.SS
open Go.RowKit Go.Proofs.YtdpodjgggicaoaaW.PrintWords Go.Proofs.YtdpodjgggicaoaaW.PrintLast Go.Proofs.YtdpodjgggicaoaaW.PrintMore
attribute [local go_sem] max2_int min2_int max_two min_two max_three min_three max_four min_four   -- for this text's walks alone
set_option linter.unusedVariables false
set_option linter.unusedSimpArgs false
def slices_Clone_byte_byte.f (l0 : List Int) : Option (List Int) := if l0.length < 140737488355328 then some l0 else none
theorem slices_Clone_byte_byte_nil : Aside0 (∀ (a : Option Addr) (n c : Nat) (w : World), Sem.run Try.prog (binOp .eql 25 (.slice a n c) (.slice none 0 0)) w = .ok (.bool a.isNone) w) := ⟨fun a n c w => Go.run_eql_slice_nil w 25 5 a n c Try.underlying25⟩
set_option maxHeartbeats 8000000 in
set_option maxRecDepth 100000 in
theorem slices_Clone_byte_byte.calls (A0 : Option Addr) (c0 : Nat) (l0 : List Int) (r : List Int) (w : World) (hr0 : Kd.C (Kd.int .u8) w A0 l0.length l0) (hc0 : l0.length ≤ c0) (h : slices_Clone_byte_byte.f l0 = some r) :
    Calls Try.prog 44 #[.slice A0 l0.length c0] w fun e w' => ∃ v0_ : Value, e = .returned (v0_) ∧ Kd.R (Kd.int .u8) 5 w' w.heap.size (fun _ => True) v0_ r ∧ Below w.heap.size w w' := by
  have HR0 := Aside0.mk hr0
  have HB := Aside0.mk (Below.refl w.heap.size w)
  unfold slices_Clone_byte_byte.f at h
  by_cases hl : l0.length < 140737488355328
  · rw [if_pos hl] at h
    obtain rfl := Option.some.inj h
    have LM := Aside0.mk hl
    clear h hr0 hl
    cases A0 with
    | none =>
      have hn := slices_Clone_byte_byte_nil.out none l0.length c0
      have hnil : l0 = [] := by
        rcases Nat.eq_zero_or_pos l0.length with h0 | h0
        · exact List.eq_nil_of_length_eq_zero h0
        · obtain ⟨ad, e, _⟩ := HR0.out.2.2 h0
          cases e
      have HN := Aside0.mk hnil
      clear hnil
      go_enter Try.func44, Try.ntmps44
      go_wp2
      go_ret
      exact ⟨.slice none 0 0, rfl, by rw [HN.out]; exact Kd.R_nil _ _ _ _ _, HB.out⟩
    | some ad =>
      have hn := slices_Clone_byte_byte_nil.out (some ad) l0.length c0
      go_enter Try.func44, Try.ntmps44
      go_wp2_with (first
        | ((with_reducible refine gate_dst (N := 5) rfl ?_); refine Kd.R_lit (Kd.int .u8) _ 5 ?hg (N := 5) ?hd (xs := []) (inner := []) (ok := fun _ => True) (okp := fun _ => True) ?hr ?hp (fun _ hk => hk) trivial (Below.refl _ _) (Nat.le_refl _) (by simp) ?_; (case hd => rfl); (case hg => rfl); (case hr => first | (go_simp; done) | (go_simp; rfl)); (case hp => exact (Reps.none _ _)); intro v1 w1 ho hb hg_ hnew_; clear hg_ hnew_; have HO1 := Aside0.mk ho; have HB1 := Aside0.mk hb; clear ho hb)
        | (at_builtin; refine Kd.R_append_rows (Kd.int .u8) (w0 := w) w.heap.size rfl (.tmp 5) (.tmp 6) 25 5 (.int .u8 0) 1 rfl Try.underlying25 info5 rfl (by decide) (by omega) v1 [] l0 _ _ _ (fun _ => True) (fun _ => False) rfl rfl HO1.out (Kd.C_below HR0.out HB1.out) (fun _ _ h => h) (fun _ h => h.elim) (fun _ _ => trivial) HB1.out (below_size HB1.out) (by have := LM.out; simp only [List.length_nil]; omega) ?_; intro v2 w2 ho hb hg hat; clear hg hat; have HO2 := Aside0.mk ho; have HB2 := Aside0.mk hb; clear ho hb))
      go_ret
      exact ⟨v2, rfl, HO2.out, HB2.out⟩
  · rw [if_neg hl] at h
    exact absurd h (by simp)
def pack_count.f (a0 : Int) : Option (Int) := some (mn (mx a0 0) 8)
set_option maxHeartbeats 8000000 in
set_option maxRecDepth 100000 in
theorem pack_count.calls (a0 : Int) (r : Int) (w : World) (h : pack_count.f a0 = some r) :
    Calls Try.prog 55 #[.int .i64 a0] w fun e w' => e = .returned (.int .i64 r) ∧ Below w.heap.size w w' := by
  have HB := Aside0.mk (Below.refl w.heap.size w)
  have H : (some (mn (mx a0 0) 8)) = some r := h
  clear h
  obtain ⟨ji2, hji2⟩ : ∃ j_ : Int, (mx a0 0) = j_ := ⟨_, rfl⟩
  replace H : (some (mn (ji2) 8)) = some r := by first | (rw [hji2] at H; exact H) | (simp only [hji2] at H ⊢; exact H)
  (try (have hji2l : 0 ≤ ji2 := by (rw [← hji2]; unfold mx; (repeat' split) <;> omega)))
  (try (have hji2m : 0 ≤ ji2 := by omega))
  have hji2_ : (if a0 < 0 then 0 else a0) = ji2 := hji2
  obtain ⟨ji3, hji3⟩ : ∃ j_ : Int, (mn (ji2) 8) = j_ := ⟨_, rfl⟩
  replace H : (some ji3) = some r := by first | (rw [hji3] at H; exact H) | (simp only [hji3] at H ⊢; exact H)
  have hji3_ : (if 8 < (ji2) then 8 else (ji2)) = ji3 := hji3
  obtain rfl := Option.some.inj H
  go_enter Try.func55, Try.ntmps55
  go_wp2
  go_ret
  exact ⟨by first | rfl | (simp [errW_none, errW_some] <;> rfl) | (simp only [← hji2, ← hji3]; first | rfl | (simp [errW_none, errW_some] <;> rfl)) | (simp [*, errW_none, errW_some] <;> rfl), by repeat (first | (with_reducible first | exact HB.out | apply below_alloc | apply pw_below_drewN | apply below_drew1) | exact HB.out)⟩
def putNums : Nat → Int → List Int
  | 0, _ => []
  | k + 1, n => (n % 256) :: putNums k (n / 256)
def pack_Put.f (l0 : List Int) (a1 a2 : Int) : Option (List Int) := if l0.length + 8 < 140737488355328 then some (l0 ++ putNums (mn (mx a2 0) 8).toNat a1) else none
theorem putNums_step (acc : List Int) (m : Nat) (n : Int) : (acc ++ [n % 256]) ++ putNums m (n / 256) = acc ++ putNums (m + 1) n := by simp [putNums]
set_option maxHeartbeats 8000000 in
set_option maxRecDepth 100000 in
theorem pack_Put.calls (A0 : Option Addr) (c0 : Nat) (l0 : List Int) (a1 a2 : Int) (r : List Int) (w : World) (hr0 : Kd.C (Kd.int .u8) w A0 l0.length l0) (hc0 : l0.length ≤ c0) (h : pack_Put.f l0 a1 a2 = some r) :
    Calls Try.prog 37 #[.slice A0 l0.length c0, .int .u64 a1, .int .i64 a2] w fun e w' => ∃ v0_ : Value, e = .returned (v0_) ∧ Kd.R (Kd.int .u8) 5 w' w.heap.size (fun _ => True) v0_ r ∧ Below w.heap.size w w' := by
  have HR0 := Aside0.mk hr0
  have HC0 := Aside0.mk hc0
  unfold pack_Put.f at h
  by_cases hl : l0.length + 8 < 140737488355328
  · rw [if_pos hl] at h
    have HR := Aside0.mk (Option.some.inj h)
    have LM := Aside0.mk hl
    obtain ⟨m0, hm0⟩ : ∃ m0 : Nat, (mn (mx a2 0) 8) = (m0 : Int) ∧ m0 ≤ 8 := by
      refine ⟨(mn (mx a2 0) 8).toNat, ?_, ?_⟩ <;> unfold mn mx <;> split <;> (try split) <;> omega
    have hcount : pack_count.f a2 = some (m0 : Int) := by unfold pack_count.f; rw [hm0.1]
    have hclone : slices_Clone_byte_byte.f l0 = some l0 := by unfold slices_Clone_byte_byte.f; rw [if_pos (by omega)]
    have HCo := Aside0.mk hcount
    have HCl := Aside0.mk hclone
    rw [hm0.1, Int.toNat_natCast] at HR
    have hm8 := hm0.2
    clear h hr0 hc0 hl hm0 hcount hclone
    go_enter Try.func37, Try.ntmps37
    go_wp2
    refine wp_scope_jumps 0 (fun a' w' => ∃ (m : Nat) (n : Int) (acc : List Int) (v : Value) (u9 u10 u11 u12 u13 u14 u15 u16 u17 u18 u19 u20 u21 u22 u23 u24 : Value), a' = { tmps := #[.slice A0 l0.length c0, .int .u64 n, .int .i64 a2, undef, undef, undef, .slice none 0 0, v, .int .i64 m, u9, u10, u11, u12, u13, u14, u15, u16, u17, u18, u19, u20, u21, u22, u23, u24], defers := [] } ∧ m ≤ 8 ∧ Aside0 (acc.length + m ≤ l0.length + 8) ∧ Aside0 (Kd.R (Kd.int .u8) 5 w' w.heap.size (fun _ => True) v acc) ∧ Aside0 (Below w.heap.size w w') ∧ Aside0 (acc ++ putNums m n = r)) (fun a' _ => (intOf (a'.tmps.getD 8 undef)).toNat) rfl ?_ ?_
    · go_wp2_with (first
        | (go_at_call 44; (with_reducible refine (slices_Clone_byte_byte.calls _ _ l0 l0 _ HR0.out HC0.out HCl.out).mono ?_); rintro e w1 ⟨v1, rfl, ho, hb⟩; have HO1 := Aside0.mk ho; have HB1 := Aside0.mk hb; clear ho hb)
        | (go_at_call 55; (with_reducible refine (pack_count.calls _ _ _ HCo.out).mono ?_); rintro e w2 ⟨rfl, hb⟩; have HB2 := Aside0.mk (below_step HB1.out hb); have HO2 := Aside0.mk (Kd.R_below HO1.out hb); clear hb))
      go_step3
      by_cases hz : 0 < m0
      · obtain ⟨m, rfl⟩ : ∃ m, m0 = m + 1 := ⟨m0 - 1, by omega⟩
        have HLN := Aside0.mk (show l0.length ≤ l0.length + 8 by omega)
        have hz2 : (0 : Int) < ((m + 1 : Nat) : Int) := by omega
        go_wp2_with (first
          | (at_builtin; refine Kd.R_append (Kd.int .u8) (w0 := w) w.heap.size rfl (.tmp 15) (.tmp 18) 25 5 (.int .u8 0) 1 rfl Try.underlying25 info5 rfl (by decide) (by omega) v1 l0 (a1 % 256) [.int .u8 (a1 % 256)] (fun _ => True) (fun _ => False) rfl rfl ?aP (fun _ hk => hk.elim) ?aF ?aO ?aB ?aS ?aL ?_; (case aP => exact rfl); (case aF => exact (fun _ _ => trivial)); (case aO => exact (by (with_reducible repeat (first | apply Kd.R_alloc | apply Kd.R_drewN | apply Kd.R_drew)); exact HO2.out)); (case aB => exact (by repeat (first | (with_reducible first | exact HB2.out | apply below_alloc | apply pw_below_drewN | apply below_drew1) | exact HB2.out))); (case aS => exact (below_size (by repeat (first | (with_reducible first | exact HB2.out | apply below_alloc | apply pw_below_drewN | apply below_drew1) | exact HB2.out)))); (case aL => have := LM.out; have := HLN.out; omega); intro v5 w5 ho hb hg hat; clear hg hat; have HO5 := Aside0.mk ho; have HB5 := Aside0.mk hb; clear ho hb))
        go_step3
        refine ⟨rfl, m, a1 / 256, l0 ++ [a1 % 256], v5, _, _, _, _, _, _, _, _, _, _, _, _, _, _, _, _, rfl, by omega, ⟨by simp; omega⟩, HO5, HB5, ⟨by rw [putNums_step]; exact HR.out⟩⟩
      · obtain rfl : m0 = 0 := by omega
        go_wp2
        simp only [Exit.jump]
        go_ret
        exact ⟨v1, rfl, by have e := HR.out; simp only [putNums, List.append_nil] at e; rw [← e]; exact HO2.out, HB2.out⟩
    · rintro a' w2 ⟨m0, n, acc, v, u9, u10, u11, u12, u13, u14, u15, u16, u17, u18, u19, u20, u21, u22, u23, u24, rfl, hm0, HLN, HO2, HB2, HR2⟩
      by_cases hz : 0 < m0
      · obtain ⟨m, rfl⟩ : ∃ m, m0 = m + 1 := ⟨m0 - 1, by omega⟩
        have hz2 : (0 : Int) < ((m + 1 : Nat) : Int) := by omega
        go_wp2_with (first
          | (at_builtin; refine Kd.R_append (Kd.int .u8) (w0 := w) w.heap.size rfl (.tmp 15) (.tmp 18) 25 5 (.int .u8 0) 1 rfl Try.underlying25 info5 rfl (by decide) (by omega) v acc (n % 256) [.int .u8 (n % 256)] (fun _ => True) (fun _ => False) rfl rfl ?aP (fun _ hk => hk.elim) ?aF ?aO ?aB ?aS ?aL ?_; (case aP => exact rfl); (case aF => exact (fun _ _ => trivial)); (case aO => exact (by (with_reducible repeat (first | apply Kd.R_alloc | apply Kd.R_drewN | apply Kd.R_drew)); exact HO2.out)); (case aB => exact (by repeat (first | (with_reducible first | exact HB2.out | apply below_alloc | apply pw_below_drewN | apply below_drew1) | exact HB2.out))); (case aS => exact (below_size (by repeat (first | (with_reducible first | exact HB2.out | apply below_alloc | apply pw_below_drewN | apply below_drew1) | exact HB2.out)))); (case aL => have := LM.out; have := HLN.out; omega); intro v5 w5 ho hb hg hat; clear hg hat; have HO5 := Aside0.mk ho; have HB5 := Aside0.mk hb; clear ho hb))
        go_step3
        refine ⟨rfl, ⟨m, n / 256, acc ++ [n % 256], v5, _, _, _, _, _, _, _, _, _, _, _, _, _, _, _, _, rfl, by omega, ⟨by have := HLN.out; simp; omega⟩, HO5, HB5, ⟨by rw [putNums_step]; exact HR2.out⟩⟩, ?_⟩
        simp [intOf]
      · obtain rfl : m0 = 0 := by omega
        go_wp2
        simp only [Exit.jump]
        go_ret
        exact ⟨v, rfl, by have e := HR2.out; simp only [putNums, List.append_nil] at e; rw [← e]; exact HO2.out, HB2.out⟩
  · rw [if_neg hl] at h
    exact absurd h (by simp)
def segment_head_may.f (a0_0 : Int) (a0_1 : Int) : Option (Bool) := if a0_1 ≥ 1 then (some (decide (a0_1 ≤ 16))) else (some false)
set_option maxHeartbeats 8000000 in
set_option maxRecDepth 100000 in
theorem segment_head_may.calls (a0_0 : Int) (a0_1 : Int) (r : Bool) (w : World) (h : segment_head_may.f a0_0 a0_1 = some r) :
    Calls Try.prog 52 #[.agg #[.int .u32 a0_0, .int .i64 a0_1]] w fun e w' => e = .returned (.bool r) ∧ Below w.heap.size w w' := by
  have hu99 := Try.underlying99
  have HB := Aside0.mk (Below.refl w.heap.size w)
  have H : (if a0_1 ≥ 1 then (some (decide (a0_1 ≤ 16))) else (some false)) = some r := h
  clear h
  by_cases c2 : a0_1 ≥ 1
  · rw [if_pos c2] at H
    have c2b0 : decide (1 ≤ a0_1) = true := decide_eq_true c2
    clear c2
    obtain rfl := Option.some.inj H
    go_enter Try.func52, Try.ntmps52
    go_wp2_with (first | ((with_reducible refine gate_dst (N := 1) rfl ?_); refine box_event ?hg (N := 1) ?hd (cs := #[.int .u32 a0_0, .int .i64 a0_1]) (t := 99) ?hr ?_; (case hd => rfl); (case hg => rfl); (case hr => first | (go_simp; done) | (go_simp; rfl)); intro gb101 hg w3 hbox hb; have n0_ := Aside0.mk (below_step (by repeat (first | (with_reducible first | exact HB.out | apply below_alloc | apply pw_below_drewN | apply below_drew1) | exact HB.out)) hb); have n1_ := Aside0.mk (hbox); have n2_ := Aside0.mk ((by rw [hg]; exact (below_size (by repeat (first | (with_reducible first | exact HB.out | apply below_alloc | apply pw_below_drewN | apply below_drew1) | exact HB.out))) : w.heap.size ≤ gb101)); have n3_ := Aside0.mk ((by rw [hg]; exact (below_size (by repeat (first | (with_reducible first | exact HB.out | apply below_alloc | apply pw_below_drewN | apply below_drew1) | exact HB.out))) : w.heap.size ≤ gb101)); clear HB; have HB := n0_; have BK101 := n1_; have GW101 := n2_; have GE101 := n3_; clear n0_ n1_ n2_ n3_; clear hb hbox hg; have hcz4_0 : w3.cell? ⟨gb101, 0, none⟩ = some (.int .u32 a0_0) := (blk_cell BK101.out 0).trans rfl; have hcz4_1 : w3.cell? ⟨gb101, 1, none⟩ = some (.int .i64 a0_1) := (blk_cell BK101.out 1).trans rfl; have hfz4_0 := blk_frozen BK101.out 0; have hfz4_1 := blk_frozen BK101.out 1))
    go_ret
    exact ⟨by first | rfl | (simp [errW_none, errW_some] <;> rfl) | (simp [*, errW_none, errW_some] <;> rfl), by repeat (first | (with_reducible first | exact HB.out | apply below_alloc | apply pw_below_drewN | apply below_drew1 | refine below_set ?_ GE101.out) | exact HB.out)⟩
  · rw [if_neg c2] at H
    have c2b0 : decide (1 ≤ a0_1) = false := decide_eq_false c2
    clear c2
    obtain rfl := Option.some.inj H
    go_enter Try.func52, Try.ntmps52
    go_wp2_with (first | ((with_reducible refine gate_dst (N := 1) rfl ?_); refine box_event ?hg (N := 1) ?hd (cs := #[.int .u32 a0_0, .int .i64 a0_1]) (t := 99) ?hr ?_; (case hd => rfl); (case hg => rfl); (case hr => first | (go_simp; done) | (go_simp; rfl)); intro gb101 hg w5 hbox hb; have n0_ := Aside0.mk (below_step (by repeat (first | (with_reducible first | exact HB.out | apply below_alloc | apply pw_below_drewN | apply below_drew1) | exact HB.out)) hb); have n1_ := Aside0.mk (hbox); have n2_ := Aside0.mk ((by rw [hg]; exact (below_size (by repeat (first | (with_reducible first | exact HB.out | apply below_alloc | apply pw_below_drewN | apply below_drew1) | exact HB.out))) : w.heap.size ≤ gb101)); have n3_ := Aside0.mk ((by rw [hg]; exact (below_size (by repeat (first | (with_reducible first | exact HB.out | apply below_alloc | apply pw_below_drewN | apply below_drew1) | exact HB.out))) : w.heap.size ≤ gb101)); clear HB; have HB := n0_; have BK101 := n1_; have GW101 := n2_; have GE101 := n3_; clear n0_ n1_ n2_ n3_; clear hb hbox hg; have hcz6_0 : w5.cell? ⟨gb101, 0, none⟩ = some (.int .u32 a0_0) := (blk_cell BK101.out 0).trans rfl; have hcz6_1 : w5.cell? ⟨gb101, 1, none⟩ = some (.int .i64 a0_1) := (blk_cell BK101.out 1).trans rfl; have hfz6_0 := blk_frozen BK101.out 0; have hfz6_1 := blk_frozen BK101.out 1))
    go_ret
    exact ⟨by first | rfl | (simp [errW_none, errW_some] <;> rfl) | (simp [*, errW_none, errW_some] <;> rfl), by repeat (first | (with_reducible first | exact HB.out | apply below_alloc | apply pw_below_drewN | apply below_drew1 | refine below_set ?_ GE101.out) | exact HB.out)⟩
def check_steps.l0 : Nat → Int → Int → Option (Int)
  | 0, _, _ => none
  | k + 1, x0, x3 => if x3 < 8 then (if (Go.bits .and .u32 x0 1) = 0 then (check_steps.l0 k (x0 / 2) (wrap64 (x3 + 1))) else (check_steps.l0 k (Go.bits .xor .u32 (x0 / 2) 3988292384) (wrap64 (x3 + 1)))) else (some x0)
def check_steps.f (k : Nat) (a0 : Int) : Option (Int) := check_steps.l0 k a0 0
theorem check_steps.mono_l : ∀ k, (∀ y0 y1, LeO (check_steps.l0 k y0 y1) (check_steps.l0 (k + 1) y0 y1))
  | 0 => fun _ _ r h => by simp [check_steps.l0] at h
  | k + 1 => by
    have ih0 := check_steps.mono_l k
    · intro y0 y1
      unfold check_steps.l0
      repeat' first
      | (with_reducible exact ih0 _ _)
      | (with_reducible exact LeO.refl _)
      | (with_reducible exact LeO.none _)
      | (with_reducible refine LeO.ite ?_ ?_)
      | (with_reducible refine LeO.bind ?_ (fun _ => ?_))
      | exact ih0 _ _
      | exact LeO.none _
      | refine LeO.ite ?_ ?_
      | refine LeO.bind ?_ (fun _ => ?_)
theorem check_steps.mono : ∀ a0 k, LeO (check_steps.f k a0) (check_steps.f (k + 1) a0) := by
  intro a0 k
  have ih0 := check_steps.mono_l k
  unfold check_steps.f
  repeat' first
      | (with_reducible exact ih0 _ _)
      | (with_reducible exact LeO.refl _)
      | (with_reducible exact LeO.none _)
      | (with_reducible refine LeO.ite ?_ ?_)
      | (with_reducible refine LeO.bind ?_ (fun _ => ?_))
      | exact ih0 _ _
      | exact LeO.none _
      | refine LeO.ite ?_ ?_
      | refine LeO.bind ?_ (fun _ => ?_)
set_option maxHeartbeats 8000000 in
set_option maxRecDepth 100000 in
theorem check_steps.calls (k : Nat) (a0 : Int) (r : Int) (w : World) (h : check_steps.f k a0 = some r) :
    Calls Try.prog 72 #[.int .u32 a0] w fun e w' => e = .returned (.int .u32 r) ∧ Drawn0 w w' := by
  have H : (check_steps.l0 k a0 0) = some r := h
  clear h
  have H' := Aside0.mk H
  clear H
  go_enter Try.func72, Try.ntmps72
  go_wp2
  go_loopg [0, 3] k (fun kq v0 v3 w' => ∃ (x0_1 : Int) (x3_1 : Int), v0 = .int .u32 x0_1 ∧ v3 = .int .i64 x3_1 ∧ Aside0 (check_steps.l0 kq x0_1 x3_1 = some r) ∧ Aside0 (kq ≤ k) ∧ Drawn0 w w')
  case atStart => exact ⟨(a0), (0), (by first | rfl | (simp; done) | (simp [*]; done)), (by first | rfl | (simp; done) | (simp [*]; done)), H', ⟨Nat.le_refl _⟩, by repeat (first | exact Drawn0.refl _ | apply Drawn0.step)⟩
  case round =>
    clear H'
    obtain ⟨x0_1, x3_1, rfl, rfl, HA, HK1, ⟨m1, rfl⟩⟩ := hrel
    cases gk with
    | zero => exact absurd HA.out (by simp [check_steps.l0])
    | succ k1 =>
      have H := HA.out
      clear HA
      simp only [check_steps.l0] at H
      by_cases c2 : x3_1 < 8
      · rw [if_pos c2] at H
        have c2b0 : decide (x3_1 < 8) = true := decide_eq_true c2
        clear c2
        by_cases c3 : (Go.bits .and .u32 x0_1 1) = 0
        · rw [if_pos c3] at H
          have c3b0 : ((Go.bits .and .u32 x0_1 1) == 0) = true := beq_iff_eq.mpr c3
          have c3b1 : ((Go.bits .and .u32 x0_1 1) != 0) = false := bne_eq_false_iff_eq.mpr c3
          clear c3
          have H' := Aside0.mk H
          clear H
          go_wp2
          go_roundg k1
          case measure => have := HK1.out; omega
          case rel => exact ⟨(x0_1 / 2), (wrap64 (x3_1 + 1)), (by first | rfl | (simp; done) | (simp [*]; done)), (by first | rfl | (simp; done) | (simp [*]; done)), H', ⟨by have := HK1.out; omega⟩, by repeat (first | exact Drawn0.refl _ | apply Drawn0.step)⟩
        · rw [if_neg c3] at H
          have c3b0 : ((Go.bits .and .u32 x0_1 1) == 0) = false := beq_eq_false_iff_ne.mpr c3
          have c3b1 : ((Go.bits .and .u32 x0_1 1) != 0) = true := bne_iff_ne.mpr c3
          have H' := Aside0.mk H
          clear H
          go_wp2
          go_roundg k1
          case measure => have := HK1.out; omega
          case rel => exact ⟨(Go.bits .xor .u32 (x0_1 / 2) 3988292384), (wrap64 (x3_1 + 1)), (by first | rfl | (simp; done) | (simp [*]; done)), (by first | rfl | (simp; done) | (simp [*]; done)), H', ⟨by have := HK1.out; omega⟩, by repeat (first | exact Drawn0.refl _ | apply Drawn0.step)⟩
      · rw [if_neg c2] at H
        have c2b0 : decide (x3_1 < 8) = false := decide_eq_false c2
        clear c2
        obtain rfl := Option.some.inj H
        go_wp2
        go_ret
        exact ⟨by first | rfl | (simp; done) | (simp [*]; done), by repeat (first | exact Drawn0.refl _ | apply Drawn0.step)⟩
theorem check_steps_some (c : Int) : ∃ r, check_steps.f 9 c = some r := by
  have h : ∀ d : Nat, d ≤ 8 → ∀ c : Int, ∃ r, check_steps.l0 (d + 1) c (8 - (d : Int)) = some r := by
    intro d
    induction d with
    | zero => intro _ c; exact ⟨c, by simp [check_steps.l0]⟩
    | succ d ih =>
      intro hd c
      have e : wrap64 (8 - ((d + 1 : Nat) : Int) + 1) = 8 - (d : Int) := by unfold wrap64; omega
      by_cases c1 : (Go.bits .and .u32 c 1) = 0
      · obtain ⟨r, hr⟩ := ih (by omega) (c / 2)
        refine ⟨r, ?_⟩
        simp only [check_steps.l0] at hr ⊢
        rw [if_pos (by omega), if_pos c1, e]; exact hr
      · obtain ⟨r, hr⟩ := ih (by omega) (Go.bits .xor .u32 (c / 2) 3988292384)
        refine ⟨r, ?_⟩
        simp only [check_steps.l0] at hr ⊢
        rw [if_pos (by omega), if_neg c1, e]; exact hr
  exact h 8 (by omega) c
def stepTab (i : Int) : Int := (check_steps.f 9 i).getD 0
theorem check_steps_tab (c : Int) : check_steps.f 9 c = some (stepTab c) := by
  obtain ⟨r, h⟩ := check_steps_some c
  simp [stepTab, h]
def tabUpto (n : Nat) : Array Value := ((List.range 256).map fun j : Nat => Value.int .u32 (if j < n then stepTab j else 0)).toArray
def tabZero : Array Value := (List.replicate 256 (Value.int .u32 0)).toArray
set_option maxRecDepth 100000 in
theorem tabUpto_zero : tabUpto 0 = tabZero := by
  unfold tabUpto tabZero
  congr 1
theorem tabUpto_size (n : Nat) : (tabUpto n).size = 256 := by simp [tabUpto]
theorem tabUpto_set (n : Nat) (h : n < 256) : (tabUpto n).setIfInBounds n (.int .u32 (stepTab n)) = tabUpto (n + 1) := by
  apply Array.ext
  · simp [tabUpto]
  · intro i h1 h2
    simp [tabUpto] at h2
    rw [Array.getElem_setIfInBounds (by simpa [tabUpto] using h2)]
    simp only [tabUpto, List.getElem_toArray, List.getElem_map, List.getElem_range]
    by_cases e : n = i
    · subst e; simp
    · simp only [e, if_false]
      by_cases e2 : i < n
      · rw [if_pos e2, if_pos (by omega)]
      · rw [if_neg e2, if_neg (by omega)]
set_option maxHeartbeats 8000000 in
set_option maxRecDepth 100000 in
theorem check_table_calls (w : World) : Calls Try.prog 68 #[] w fun e w' => e = .returned (.agg (tabUpto 256)) ∧ Below w.heap.size w w' := by
  have hz : ∀ w, Sem.run Try.prog (zeroValue 115) w = .ok (.agg tabZero) w := fun _ => by kernel_rfl
  have HB := Aside0.mk (Below.refl w.heap.size w)
  go_enter Try.func68, Try.ntmps68
  go_wp2
  go_loopw [3] (fun i wr => ∃ k : Nat, k ≤ 256 ∧ i = .int .i64 k ∧ Aside0 (Below w.heap.size w wr) ∧ Aside0 (wr.heap[w.heap.size]? = some (.cells tabZero 115 (0, 0))) ∧ Aside0 (wr.heap[w.heap.size + 1]? = some (.cells (tabUpto k) 115 (0, 0)))) (fun i _ => 256 - (intOf i).toNat)
  case atStart => exact ⟨0, by omega, rfl, ⟨below_alloc (below_alloc HB.out _) _⟩, ⟨heap_alloc2_old _ _ _⟩, ⟨by rw [tabUpto_zero]; exact heap_alloc2_new _ _ _⟩⟩
  case round =>
    obtain ⟨k, hk, rfl, HBr, h0, h1⟩ := hrel
    by_cases hlt : k < 256
    · have hfz : wr.frozen? ⟨w.heap.size + 1, k, none⟩ = false := blk_frozen h1.out k
      obtain ⟨v, hcell⟩ : ∃ v, wr.cell? ⟨w.heap.size + 1, k, none⟩ = some v := ⟨_, by rw [blk_cell h1.out k]; exact Array.getElem?_eq_getElem (by rw [tabUpto_size]; exact hlt)⟩
      go_wp2_with (go_at_call 72; refine (check_steps.calls 9 _ _ _ (check_steps_tab _)).mono ?_; rintro e w' ⟨rfl, ⟨n, rfl⟩⟩)
      go_roundw
      case measure => simp [intOf]; omega
      case rel => exact ⟨k + 1, by omega, by go_num, ⟨below_set (pw_below_drewN HBr.out n) (Nat.le_succ _)⟩, ⟨blk_far (blk_drewN h0.out n) (by simp) _⟩, ⟨blk_put (blk_drewN h1.out n) k _ (tabUpto_set k hlt)⟩⟩
    · obtain rfl : k = 256 := by omega
      go_wp2_with first
        | (refine wpList_load_row rfl 115 _ rfl (w.heap.size + 1) rfl 115 _ (0, 0) _ h1.out Try.underlying115 rfl (by kernel_rfl) ?_)
        | (refine wpList_store_row rfl 115 _ _ rfl w.heap.size _ rfl rfl 115 _ h0.out (by kernel_rfl) (by kernel_rfl) (by kernel_rfl) ?_)
      exact bodyPost_ret (v := .agg (tabUpto 256)) (results_cell_row (P := Try.prog) rfl _ _ w.heap.size 115 _ (0, 0) _ rfl (setRow_heap _ _ _ _ _ _ h0.out) Try.underlying115 rfl (by kernel_rfl)) rfl ⟨rfl, below_setRow HBr.out (Nat.le_refl _) _⟩
def check_More.f (a0 : Int) (l1 : List Int) : Option Int := some (Go.bits .xor .u32 4294967295 (l1.foldl (fun c x => Go.bits .xor .u32 (c / 256) (stepTab (Go.bits .xor .u8 (c % 256) x))) (Go.bits .xor .u32 4294967295 a0)))
set_option maxHeartbeats 8000000 in
set_option maxRecDepth 100000 in
theorem check_More.calls (a0 : Int) (A1 : Option Addr) (c1 : Nat) (l1 : List Int) (r : Int) (w : World) (hr1 : Kd.C (Kd.int .u8) w A1 l1.length l1) (hc1 : l1.length ≤ c1) (h : check_More.f a0 l1 = some r) :
    Calls Try.prog 58 #[.int .u32 a0, .slice A1 l1.length c1] w fun e w' => e = .returned (.int .u32 r) ∧ Below w.heap.size w w' := by
  have hz : ∀ w, Sem.run Try.prog (zeroValue 115) w = .ok (.agg tabZero) w := fun _ => by kernel_rfl
  have HR := Aside0.mk hr1
  have HRES := Aside0.mk (Option.some.inj h)
  clear hr1 h
  have HB := Aside0.mk (Below.refl w.heap.size w)
  have hmax : l1.length ≤ 9223372036854775807 := Kd.C_max HR.out
  go_enter Try.func58, Try.ntmps58
  go_wp2_with first
    | (go_at_call 68; refine (check_table_calls _).mono ?_; rintro e w1 ⟨rfl, hb⟩; have HB1 := Aside0.mk hb; clear hb)
    | (refine wpList_store_row rfl 115 _ _ rfl _ _ rfl rfl 115 _ (heap_alloc_new _ _) (by kernel_rfl) (by kernel_rfl) (by kernel_rfl) ?_; rw [World.setRow_alloc_new])
  have hnew : (w1.alloc (.cells (tabUpto 256) 115)).heap[w1.heap.size]? = some (.cells (tabUpto 256) 115 (0, 0)) := heap_alloc_new _ _
  have HCt : Aside0 (∀ j : Int, 0 ≤ j → j ≤ 255 → (w1.alloc (.cells (tabUpto 256) 115)).cell? ⟨w1.heap.size, j.toNat, none⟩ = some (.int .u32 (stepTab j))) := ⟨fun j h0 h1 => by
    rw [blk_cell hnew, Array.getElem?_eq_getElem (by rw [tabUpto_size]; omega)]
    obtain ⟨n, rfl⟩ := Int.eq_ofNat_of_zero_le h0
    simp only [tabUpto, List.getElem_toArray, List.getElem_map, List.getElem_range, Int.toNat_natCast]
    rw [if_pos (by omega)]⟩
  have HB2 := Aside0.mk (below_alloc HB1.out (.cells (tabUpto 256) 115))
  clear hnew HB1
  obtain ⟨w2, hw2⟩ : ∃ w2 : World, w2 = w1.alloc (.cells (tabUpto 256) 115) := ⟨_, rfl⟩
  rw [← hw2] at HCt HB2
  rw [← hw2]
  clear hw2
  go_loop [6, 14] (fun c i => ∃ k : Nat, k ≤ l1.length ∧ i = .int .i64 k ∧ c = .int .u32 ((l1.take k).foldl (fun c x => Go.bits .xor .u32 (c / 256) (stepTab (Go.bits .xor .u8 (c % 256) x))) (Go.bits .xor .u32 4294967295 a0))) (fun _ i => l1.length - (intOf i).toNat)
  case atStart => exact ⟨0, by omega, rfl, rfl⟩
  case round =>
    obtain ⟨k, hk, rfl, rfl⟩ := hrel
    by_cases hlt : k < l1.length
    · generalize hc : (l1.take k).foldl (fun c x => Go.bits .xor .u32 (c / 256) (stepTab (Go.bits .xor .u8 (c % 256) x))) (Go.bits .xor .u32 4294967295 a0) = c
      obtain ⟨ad, e, hx⟩ := Kd.at_int HR.out (k : Int) (by omega) (by omega)
      cases e
      replace hx := (HB2.out.cell (World.block_lt_of_cell? w _ hx)).trans hx
      rw [Int.toNat_natCast] at hx
      obtain ⟨x, hxd⟩ : ∃ x, rd l1 k = x := ⟨_, rfl⟩
      rw [hxd] at hx
      obtain ⟨j, hj⟩ : ∃ j, Go.bits .xor .u8 (c % 256) x = j := ⟨_, rfl⟩
      have hj0 : 0 ≤ j := by rw [← hj]; exact bits_lo_u8 _ _ _
      have hj1 : j ≤ 255 := by rw [← hj]; exact bits_hi_u8 _ _ _
      have hj2 : j < 256 := by omega
      have hcj := HCt.out j hj0 hj1
      have HS := Aside0.mk (show (l1.take (k + 1)).foldl (fun c x => Go.bits .xor .u32 (c / 256) (stepTab (Go.bits .xor .u8 (c % 256) x))) (Go.bits .xor .u32 4294967295 a0) = Go.bits .xor .u32 (c / 256) (stepTab j) from by
        rw [List.take_succ_eq_append_getElem hlt, List.foldl_append, hc]
        simp only [List.foldl_cons, List.foldl_nil]
        have : l1[k] = x := by rw [← hxd]; simp [rd, List.getD_eq_getElem?_getD, List.getElem?_eq_getElem hlt]
        rw [this, hj])
      clear hc hxd
      go_wp2
      go_round
      case measure => simp [intOf]; omega
      case rel => exact ⟨k + 1, by omega, by go_num, by rw [HS.out]⟩
    · obtain rfl := HRES.out
      have hK : Aside0 (k = l1.length) := ⟨by omega⟩
      go_wp2
      go_ret
      exact ⟨by rw [hK.out, List.take_length]; rfl, HB2.out⟩
def check_Sum.f (l0 : List Int) : Option (Int) := (check_More.f 0 l0).bind fun t102 => (some t102)
set_option maxHeartbeats 8000000 in
set_option maxRecDepth 100000 in
theorem check_Sum.calls (A0 : Option Addr) (c0 : Nat) (l0 : List Int) (r : Int) (w : World) (hr0 : Kd.C (Kd.int .u8) w A0 l0.length l0) (hc0 : l0.length ≤ c0) (h : check_Sum.f l0 = some r) :
    Calls Try.prog 53 #[.slice A0 l0.length c0] w fun e w' => e = .returned (.int .u32 r) ∧ Below w.heap.size w w' := by
  have HR0 := Aside0.mk hr0
  have HC0 := Aside0.mk hc0
  clear hr0 hc0
  have HB := Aside0.mk (Below.refl w.heap.size w)
  have H : ((check_More.f 0 l0).bind fun t102 => (some t102)) = some r := h
  clear h
  replace H := Option.bind_eq_some_iff.mp H
  obtain ⟨t102, A20, H⟩ := H
  replace H : (some t102) = some r := H
  have A2 := Aside0.mk A20
  clear A20
  obtain rfl := Option.some.inj H
  go_enter Try.func53, Try.ntmps53
  go_wp2_with (first | ((with_reducible refine gate_callee (f := 58) rfl ?_); refine goesL_ (some 4) rfl rfl Try.func58 (by kernel_rfl) rfl #[.int .u32 0, .slice A0 l0.length c0] rfl (by (try simp only [List.map_toArray, List.map_cons, List.map_nil]); first | done | rfl | (simp only [List.length_drop, List.length_take]; rfl)) ?_; (with_reducible refine (check_More.calls 0 _ _ l0 t102 _ ?side1 ?side2 A2.out).mono ?_); (case side1 => repeat (first | exact HR0.out | (with_reducible refine Kd.C_alloc ?_ _) | (with_reducible refine Kd.C_drewN ?_ _) | (with_reducible refine Kd.C_drew ?_))); (case side2 => exact HC0.out); rintro e w3 ⟨rfl, hb⟩; refine ⟨_, rfl, ?_⟩; have n0_ := Aside0.mk (below_step (by repeat (first | (with_reducible first | exact HB.out | apply below_alloc | apply pw_below_drewN | apply below_drew1) | exact HB.out)) hb); clear HB; have HB := n0_; clear n0_; (try clear hb); (try clear hb2); (try clear hk); (try clear hi)))
  go_ret
  exact ⟨by first | rfl | (simp [errW_none, errW_some] <;> rfl) | (simp [*, errW_none, errW_some] <;> rfl), by repeat (first | (with_reducible first | exact HB.out | apply below_alloc | apply pw_below_drewN | apply below_drew1) | exact HB.out)⟩
def segment_Head.f (a0 : Int) (a1 : Int) : Option (List Int × Int) := (segment_head_may.f a0 a1).bind fun t104 => (if t104 = true then ((pack_Put.f (([83, 69, 71, 49] : List Int)) (IntKind.u64.wrap (a0)) 4).bind fun t108 => ((pack_Put.f t108 (IntKind.u64.wrap (a1)) 2).bind fun t111 => ((check_Sum.f t111).bind fun t114 => ((pack_Put.f t111 (IntKind.u64.wrap (t114)) 4).bind fun t115 => (some (t115, 0)))))) else (some (([] : List Int), 1)))
set_option maxHeartbeats 8000000 in
set_option maxRecDepth 100000 in
theorem segment_Head.calls (a0 : Int) (a1 : Int) (r1 : List Int) (r2 : Int) (w : World) (h : segment_Head.f a0 a1 = some (r1, r2)) :
    Calls Try.prog 31 #[.int .u32 a0, .int .i64 a1] w fun e w' => ∃ v0_ : Value, e = .returned (.tuple #[v0_, .int .i64 r2]) ∧ Kd.R (Kd.int .u8) 5 w' w.heap.size (fun _ => True) v0_ r1 ∧ Below w.heap.size w w' := by
  have hu99 := Try.underlying99
  have HB := Aside0.mk (Below.refl w.heap.size w)
  have H : ((segment_head_may.f a0 a1).bind fun t104 => (if t104 = true then ((pack_Put.f (([83, 69, 71, 49] : List Int)) (IntKind.u64.wrap (a0)) 4).bind fun t108 => ((pack_Put.f t108 (IntKind.u64.wrap (a1)) 2).bind fun t111 => ((check_Sum.f t111).bind fun t114 => ((pack_Put.f t111 (IntKind.u64.wrap (t114)) 4).bind fun t115 => (some (t115, 0)))))) else (some (([] : List Int), 1)))) = some (r1, r2) := h
  clear h
  replace H := Option.bind_eq_some_iff.mp H
  obtain ⟨t104, A30, H⟩ := H
  replace H : (if t104 = true then ((pack_Put.f (([83, 69, 71, 49] : List Int)) (IntKind.u64.wrap (a0)) 4).bind fun t108 => ((pack_Put.f t108 (IntKind.u64.wrap (a1)) 2).bind fun t111 => ((check_Sum.f t111).bind fun t114 => ((pack_Put.f t111 (IntKind.u64.wrap (t114)) 4).bind fun t115 => (some (t115, 0)))))) else (some (([] : List Int), 1))) = some (r1, r2) := H
  have A3 := Aside0.mk A30
  clear A30
  by_cases c4 : t104 = true
  · subst c4
    have H1 : ((pack_Put.f (([83, 69, 71, 49] : List Int)) (IntKind.u64.wrap (a0)) 4).bind fun t108 => ((pack_Put.f t108 (IntKind.u64.wrap (a1)) 2).bind fun t111 => ((check_Sum.f t111).bind fun t114 => ((pack_Put.f t111 (IntKind.u64.wrap (t114)) 4).bind fun t115 => (some (t115, 0)))))) = some (r1, r2) := by rw [if_pos rfl] at H; exact H
    clear H
    have H := H1
    clear H1
    obtain ⟨y105, hy105⟩ : ∃ y_ : List Int, y_ = (([83, 69, 71, 49] : List Int)) := ⟨_, rfl⟩
    replace H : ((pack_Put.f y105 (IntKind.u64.wrap (a0)) 4).bind fun t108 => ((pack_Put.f t108 (IntKind.u64.wrap (a1)) 2).bind fun t111 => ((check_Sum.f t111).bind fun t114 => ((pack_Put.f t111 (IntKind.u64.wrap (t114)) 4).bind fun t115 => (some (t115, 0)))))) = some (r1, r2) := by first | (rw [hy105]; with_reducible exact H) | (have H2_ := (Option.bind_some _ _).symm.trans H; rw [hy105]; with_reducible exact H2_) | (have H2_ := (Option.bind_some _ _).symm.trans H; with_reducible exact H2_) | with_reducible exact H | (rw [hy105]; exact H) | exact H
    have Ny105 := Aside0.mk hy105
    clear hy105
    replace H := Option.bind_eq_some_iff.mp H
    obtain ⟨t108, A50, H⟩ := H
    replace H : ((pack_Put.f t108 (IntKind.u64.wrap (a1)) 2).bind fun t111 => ((check_Sum.f t111).bind fun t114 => ((pack_Put.f t111 (IntKind.u64.wrap (t114)) 4).bind fun t115 => (some (t115, 0))))) = some (r1, r2) := H
    have A5 := Aside0.mk A50
    clear A50
    replace H := Option.bind_eq_some_iff.mp H
    obtain ⟨t111, A60, H⟩ := H
    replace H : ((check_Sum.f t111).bind fun t114 => ((pack_Put.f t111 (IntKind.u64.wrap (t114)) 4).bind fun t115 => (some (t115, 0)))) = some (r1, r2) := H
    have A6 := Aside0.mk A60
    clear A60
    replace H := Option.bind_eq_some_iff.mp H
    obtain ⟨t114, A70, H⟩ := H
    replace H : ((pack_Put.f t111 (IntKind.u64.wrap (t114)) 4).bind fun t115 => (some (t115, 0))) = some (r1, r2) := H
    have A7 := Aside0.mk A70
    clear A70
    replace H := Option.bind_eq_some_iff.mp H
    obtain ⟨t115, A80, H⟩ := H
    replace H : (some (t115, 0)) = some (r1, r2) := H
    have A8 := Aside0.mk A80
    clear A80
    simp only [Option.some.injEq, Prod.mk.injEq] at H
    obtain ⟨rfl, rfl⟩ := H
    go_enter Try.func31, Try.ntmps31
    go_wp2_with (first | ((with_reducible refine gate_dst (N := 6) rfl ?_); refine box_event ?hg (N := 6) ?hd (cs := #[.int .u32 0, .int .i64 0]) (t := 99) ?hr ?_; (case hd => rfl); (case hg => rfl); (case hr => first | (go_simp; done) | (go_simp; rfl)); intro gb103 hg w9 hbox hb; have n0_ := Aside0.mk (below_step (by repeat (first | (with_reducible first | exact HB.out | apply below_alloc | apply pw_below_drewN | apply below_drew1) | exact HB.out)) hb); have n1_ := Aside0.mk (hbox); have n2_ := Aside0.mk ((by rw [hg]; exact (below_size (by repeat (first | (with_reducible first | exact HB.out | apply below_alloc | apply pw_below_drewN | apply below_drew1) | exact HB.out))) : w.heap.size ≤ gb103)); have n3_ := Aside0.mk ((by rw [hg]; exact (below_size (by repeat (first | (with_reducible first | exact HB.out | apply below_alloc | apply pw_below_drewN | apply below_drew1) | exact HB.out))) : w.heap.size ≤ gb103)); clear HB; have HB := n0_; have BK103 := n1_; have GW103 := n2_; have GE103 := n3_; clear n0_ n1_ n2_ n3_; clear hb hbox hg; have hcz10_0 : w9.cell? ⟨gb103, 0, none⟩ = some (.int .u32 0) := (blk_cell BK103.out 0).trans rfl; have hcz10_1 : w9.cell? ⟨gb103, 1, none⟩ = some (.int .i64 0) := (blk_cell BK103.out 1).trans rfl; have hfz10_0 := blk_frozen BK103.out 0; have hfz10_1 := blk_frozen BK103.out 1) | ((with_reducible refine gate_callee (f := 52) rfl ?_); refine goesL_ (some 12) rfl rfl Try.func52 (by kernel_rfl) rfl #[.agg #[.int .u32 a0, .int .i64 a1]] rfl (by (try simp only [List.map_toArray, List.map_cons, List.map_nil]); first | done | rfl | (simp only [List.length_drop, List.length_take]; rfl) | (rw [Go.Proofs.Ytdpodjgggicaoaa.H.u64_id _ (by simp only [decide_eq_false_iff_not, decide_eq_true_eq, Nat.not_lt, Int.not_lt] at *; omega) (by simp only [decide_eq_false_iff_not, decide_eq_true_eq, Nat.not_lt, Int.not_lt] at *; omega)]; rfl)) ?_; (with_reducible refine (segment_head_may.calls a0 a1 true _ A3.out).mono ?_); rintro e w11 ⟨rfl, hb⟩; refine ⟨_, rfl, ?_⟩; have n0_ := Aside0.mk (blk_below (g := gb103) (o := .cells #[.int .u32 a0, .int .i64 a1] 99 (0, 0)) (by (with_reducible repeat (first | refine blk_drewN ?_ _ | refine blk_drew ?_ | refine blk_alloc ?_ _)); refine blk_put (cs := #[.int .u32 a0, .int .i64 0]) ?_ 1 _ rfl; (with_reducible repeat (first | refine blk_drewN ?_ _ | refine blk_drew ?_ | refine blk_alloc ?_ _)); refine blk_put (cs := #[.int .u32 0, .int .i64 0]) ?_ 0 _ rfl; (with_reducible repeat (first | refine blk_drewN ?_ _ | refine blk_drew ?_ | refine blk_alloc ?_ _)); exact BK103.out) hb); have n1_ := Aside0.mk (below_step (by repeat (first | (with_reducible first | exact HB.out | apply below_alloc | apply pw_below_drewN | apply below_drew1 | refine below_set ?_ GE103.out) | exact HB.out)) hb); clear BK103; clear HB; have BK103 := n0_; have HB := n1_; clear n0_ n1_; (try clear hb); (try clear hb2); (try clear hk); (try clear hi)) | ((with_reducible refine gate_dst (N := 14) rfl ?_); refine Go.Proofs.Ytdpodjgggicaoaa.H.lit_conv 5 25 ?hg (N1 := 14) ?hd rfl rfl Try.underlying25 Try.underlying5 (xs := ([83, 69, 71, 49] : List Int)) (C := ([.int .u8 83, .int .u8 69, .int .u8 71, .int .u8 49] : List Value).toArray) ?hN ?hr ?hC ?hl ?_; (case hd => rfl); (case hg => rfl); (case hN => first | decide | (simp; done)); (case hr => first | (go_simp; done) | (go_simp; rfl)); (case hC => rfl); (case hl => decide); intro v106 w12 ho13 hb; rw [← Ny105.out] at ho13; have n0_ := Aside0.mk ho13; have n1_ := Aside0.mk (blk_below (g := gb103) (o := .cells #[.int .u32 a0, .int .i64 a1] 99 (0, 0)) (by (with_reducible repeat (first | refine blk_drewN ?_ _ | refine blk_drew ?_ | refine blk_alloc ?_ _)); exact BK103.out) hb); have n2_ := Aside0.mk (below_step (by repeat (first | (with_reducible first | exact HB.out | apply below_alloc | apply pw_below_drewN | apply below_drew1 | refine below_set ?_ GE103.out) | exact HB.out)) hb); clear BK103; clear HB; have HO107 := n0_; have BK103 := n1_; have HB := n2_; clear n0_ n1_ n2_; clear hb ho13; obtain ⟨Ao14, co14, eo14⟩ := Go.Proofs.Ytdpodjgggicaoaa.H.litF_slice HO107.out; subst eo14) | ((with_reducible refine gate_callee (f := 37) rfl ?_); refine goesL_ (some 18) rfl rfl Try.func37 (by kernel_rfl) rfl #[.slice Ao14 y105.length co14, .int .u64 (IntKind.u64.wrap (a0)), .int .i64 4] rfl (by (try simp only [List.map_toArray, List.map_cons, List.map_nil]); first | done | rfl | (simp only [List.length_drop, List.length_take]; rfl) | (rw [Go.Proofs.Ytdpodjgggicaoaa.H.u64_id _ (by simp only [decide_eq_false_iff_not, decide_eq_true_eq, Nat.not_lt, Int.not_lt] at *; omega) (by simp only [decide_eq_false_iff_not, decide_eq_true_eq, Nat.not_lt, Int.not_lt] at *; omega)]; rfl)) ?_; (with_reducible refine (pack_Put.calls _ _ y105 (IntKind.u64.wrap (a0)) 4 t108 _ ?side1 ?side2 A5.out).mono ?_); (case side1 => repeat (first | exact (Go.Proofs.Ytdpodjgggicaoaa.H.litF_reads' HO107.out).2.2 | (with_reducible refine Kd.C_alloc ?_ _) | (with_reducible refine Kd.C_drewN ?_ _) | (with_reducible refine Kd.C_drew ?_))); (case side2 => exact (Go.Proofs.Ytdpodjgggicaoaa.H.litF_reads' HO107.out).2.1); rintro e w15 ⟨v109, rfl, ho0, hb⟩; refine ⟨_, rfl, ?_⟩; have n0_ := Aside0.mk (Go.Proofs.Ytdpodjgggicaoaa.H.litF_below (by (with_reducible repeat (first | apply Go.Proofs.Ytdpodjgggicaoaa.H.litF_alloc | apply Go.Proofs.Ytdpodjgggicaoaa.H.litF_drewN | apply Go.Proofs.Ytdpodjgggicaoaa.H.litF_drew)); exact HO107.out) hb); have n1_ := Aside0.mk (Kd.R_lower (Kd.R_new' ho0 (Go.Proofs.Ytdpodjgggicaoaa.H.litF_lt (by (with_reducible repeat (first | apply Go.Proofs.Ytdpodjgggicaoaa.H.litF_alloc | apply Go.Proofs.Ytdpodjgggicaoaa.H.litF_drewN | apply Go.Proofs.Ytdpodjgggicaoaa.H.litF_drew)); exact HO107.out))) (below_size (by repeat (first | (with_reducible first | exact HB.out | apply below_alloc | apply pw_below_drewN | apply below_drew1 | refine below_set ?_ GE103.out) | exact HB.out)))); have n2_ := Aside0.mk (blk_below (g := gb103) (o := .cells #[.int .u32 a0, .int .i64 a1] 99 (0, 0)) (by (with_reducible repeat (first | refine blk_drewN ?_ _ | refine blk_drew ?_ | refine blk_alloc ?_ _)); exact BK103.out) hb); have n3_ := Aside0.mk (below_step (by repeat (first | (with_reducible first | exact HB.out | apply below_alloc | apply pw_below_drewN | apply below_drew1 | refine below_set ?_ GE103.out) | exact HB.out)) hb); clear HO107; clear BK103; clear HB; have HO107 := n0_; have HO110 := n1_; have BK103 := n2_; have HB := n3_; clear n0_ n1_ n2_ n3_; (try clear hb); (try clear hb2); (try clear hk); (try clear hi); (try clear ho0); obtain ⟨Ao16, co16, eo16⟩ := Kd.R_slice HO110.out; subst eo16) | ((with_reducible refine gate_callee (f := 37) rfl ?_); refine goesL_ (some 21) rfl rfl Try.func37 (by kernel_rfl) rfl #[.slice Ao16 t108.length co16, .int .u64 (IntKind.u64.wrap (a1)), .int .i64 2] rfl (by (try simp only [List.map_toArray, List.map_cons, List.map_nil]); first | done | rfl | (simp only [List.length_drop, List.length_take]; rfl) | (rw [Go.Proofs.Ytdpodjgggicaoaa.H.u64_id _ (by simp only [decide_eq_false_iff_not, decide_eq_true_eq, Nat.not_lt, Int.not_lt] at *; omega) (by simp only [decide_eq_false_iff_not, decide_eq_true_eq, Nat.not_lt, Int.not_lt] at *; omega)]; rfl)) ?_; (with_reducible refine (pack_Put.calls _ _ t108 (IntKind.u64.wrap (a1)) 2 t111 _ ?side1 ?side2 A6.out).mono ?_); (case side1 => repeat (first | exact (Kd.R_reads' HO110.out).2.2 | (with_reducible refine Kd.C_alloc ?_ _) | (with_reducible refine Kd.C_drewN ?_ _) | (with_reducible refine Kd.C_drew ?_))); (case side2 => exact (Kd.R_reads' HO110.out).2.1); rintro e w17 ⟨v112, rfl, ho0, hb⟩; refine ⟨_, rfl, ?_⟩; have n0_ := Aside0.mk (Go.Proofs.Ytdpodjgggicaoaa.H.litF_below (by (with_reducible repeat (first | apply Go.Proofs.Ytdpodjgggicaoaa.H.litF_alloc | apply Go.Proofs.Ytdpodjgggicaoaa.H.litF_drewN | apply Go.Proofs.Ytdpodjgggicaoaa.H.litF_drew)); exact HO107.out) hb); have n1_ := Aside0.mk (Kd.R_elder' (by (with_reducible repeat (first | apply Kd.R_alloc | apply Kd.R_drewN | apply Kd.R_drew)); exact HO110.out) (Kd.R_base ho0) hb); have n2_ := Aside0.mk (Kd.R_lower (Kd.R_new' (Kd.R_new' ho0 (Go.Proofs.Ytdpodjgggicaoaa.H.litF_lt (by (with_reducible repeat (first | apply Go.Proofs.Ytdpodjgggicaoaa.H.litF_alloc | apply Go.Proofs.Ytdpodjgggicaoaa.H.litF_drewN | apply Go.Proofs.Ytdpodjgggicaoaa.H.litF_drew)); exact HO107.out))) (Kd.R_lt (by (with_reducible repeat (first | apply Kd.R_alloc | apply Kd.R_drewN | apply Kd.R_drew)); exact HO110.out))) (below_size (by repeat (first | (with_reducible first | exact HB.out | apply below_alloc | apply pw_below_drewN | apply below_drew1 | refine below_set ?_ GE103.out) | exact HB.out)))); have n3_ := Aside0.mk (blk_below (g := gb103) (o := .cells #[.int .u32 a0, .int .i64 a1] 99 (0, 0)) (by (with_reducible repeat (first | refine blk_drewN ?_ _ | refine blk_drew ?_ | refine blk_alloc ?_ _)); exact BK103.out) hb); have n4_ := Aside0.mk (below_step (by repeat (first | (with_reducible first | exact HB.out | apply below_alloc | apply pw_below_drewN | apply below_drew1 | refine below_set ?_ GE103.out) | exact HB.out)) hb); clear HO107; clear HO110; clear BK103; clear HB; have HO107 := n0_; have HO110 := n1_; have HO113 := n2_; have BK103 := n3_; have HB := n4_; clear n0_ n1_ n2_ n3_ n4_; (try clear hb); (try clear hb2); (try clear hk); (try clear hi); (try clear ho0); obtain ⟨Ao18, co18, eo18⟩ := Kd.R_slice HO113.out; subst eo18) | ((with_reducible refine gate_callee (f := 53) rfl ?_); refine goesL_ (some 24) rfl rfl Try.func53 (by kernel_rfl) rfl #[.slice Ao18 t111.length co18] rfl (by (try simp only [List.map_toArray, List.map_cons, List.map_nil]); first | done | rfl | (simp only [List.length_drop, List.length_take]; rfl) | (rw [Go.Proofs.Ytdpodjgggicaoaa.H.u64_id _ (by simp only [decide_eq_false_iff_not, decide_eq_true_eq, Nat.not_lt, Int.not_lt] at *; omega) (by simp only [decide_eq_false_iff_not, decide_eq_true_eq, Nat.not_lt, Int.not_lt] at *; omega)]; rfl)) ?_; (with_reducible refine (check_Sum.calls _ _ t111 t114 _ ?side1 ?side2 A7.out).mono ?_); (case side1 => repeat (first | exact (Kd.R_reads' HO113.out).2.2 | (with_reducible refine Kd.C_alloc ?_ _) | (with_reducible refine Kd.C_drewN ?_ _) | (with_reducible refine Kd.C_drew ?_))); (case side2 => exact (Kd.R_reads' HO113.out).2.1); rintro e w19 ⟨rfl, hb⟩; refine ⟨_, rfl, ?_⟩; have n0_ := Aside0.mk (Go.Proofs.Ytdpodjgggicaoaa.H.litF_below (by (with_reducible repeat (first | apply Go.Proofs.Ytdpodjgggicaoaa.H.litF_alloc | apply Go.Proofs.Ytdpodjgggicaoaa.H.litF_drewN | apply Go.Proofs.Ytdpodjgggicaoaa.H.litF_drew)); exact HO107.out) hb); have n1_ := Aside0.mk (Kd.R_below (by (with_reducible repeat (first | apply Kd.R_alloc | apply Kd.R_drewN | apply Kd.R_drew)); exact HO110.out) hb); have n2_ := Aside0.mk (Kd.R_below (by (with_reducible repeat (first | apply Kd.R_alloc | apply Kd.R_drewN | apply Kd.R_drew)); exact HO113.out) hb); have n3_ := Aside0.mk (blk_below (g := gb103) (o := .cells #[.int .u32 a0, .int .i64 a1] 99 (0, 0)) (by (with_reducible repeat (first | refine blk_drewN ?_ _ | refine blk_drew ?_ | refine blk_alloc ?_ _)); exact BK103.out) hb); have n4_ := Aside0.mk (below_step (by repeat (first | (with_reducible first | exact HB.out | apply below_alloc | apply pw_below_drewN | apply below_drew1 | refine below_set ?_ GE103.out) | exact HB.out)) hb); clear HO107; clear HO110; clear HO113; clear BK103; clear HB; have HO107 := n0_; have HO110 := n1_; have HO113 := n2_; have BK103 := n3_; have HB := n4_; clear n0_ n1_ n2_ n3_ n4_; (try clear hb); (try clear hb2); (try clear hk); (try clear hi)) | ((with_reducible refine gate_callee (f := 37) rfl ?_); refine goesL_ (some 26) rfl rfl Try.func37 (by kernel_rfl) rfl #[.slice Ao18 t111.length co18, .int .u64 (IntKind.u64.wrap (t114)), .int .i64 4] rfl (by (try simp only [List.map_toArray, List.map_cons, List.map_nil]); first | done | rfl | (simp only [List.length_drop, List.length_take]; rfl) | (rw [Go.Proofs.Ytdpodjgggicaoaa.H.u64_id _ (by simp only [decide_eq_false_iff_not, decide_eq_true_eq, Nat.not_lt, Int.not_lt] at *; omega) (by simp only [decide_eq_false_iff_not, decide_eq_true_eq, Nat.not_lt, Int.not_lt] at *; omega)]; rfl)) ?_; (with_reducible refine (pack_Put.calls _ _ t111 (IntKind.u64.wrap (t114)) 4 t115 _ ?side1 ?side2 A8.out).mono ?_); (case side1 => repeat (first | exact (Kd.R_reads' HO113.out).2.2 | (with_reducible refine Kd.C_alloc ?_ _) | (with_reducible refine Kd.C_drewN ?_ _) | (with_reducible refine Kd.C_drew ?_))); (case side2 => exact (Kd.R_reads' HO113.out).2.1); rintro e w20 ⟨v116, rfl, ho0, hb⟩; refine ⟨_, rfl, ?_⟩; have n0_ := Aside0.mk (Go.Proofs.Ytdpodjgggicaoaa.H.litF_below (by (with_reducible repeat (first | apply Go.Proofs.Ytdpodjgggicaoaa.H.litF_alloc | apply Go.Proofs.Ytdpodjgggicaoaa.H.litF_drewN | apply Go.Proofs.Ytdpodjgggicaoaa.H.litF_drew)); exact HO107.out) hb); have n1_ := Aside0.mk (Kd.R_elder' (by (with_reducible repeat (first | apply Kd.R_alloc | apply Kd.R_drewN | apply Kd.R_drew)); exact HO110.out) (Kd.R_base ho0) hb); have n2_ := Aside0.mk (Kd.R_elder' (by (with_reducible repeat (first | apply Kd.R_alloc | apply Kd.R_drewN | apply Kd.R_drew)); exact HO113.out) (Kd.R_base ho0) hb); have n3_ := Aside0.mk (Kd.R_lower (Kd.R_new' (Kd.R_new' (Kd.R_new' ho0 (Go.Proofs.Ytdpodjgggicaoaa.H.litF_lt (by (with_reducible repeat (first | apply Go.Proofs.Ytdpodjgggicaoaa.H.litF_alloc | apply Go.Proofs.Ytdpodjgggicaoaa.H.litF_drewN | apply Go.Proofs.Ytdpodjgggicaoaa.H.litF_drew)); exact HO107.out))) (Kd.R_lt (by (with_reducible repeat (first | apply Kd.R_alloc | apply Kd.R_drewN | apply Kd.R_drew)); exact HO110.out))) (Kd.R_lt (by (with_reducible repeat (first | apply Kd.R_alloc | apply Kd.R_drewN | apply Kd.R_drew)); exact HO113.out))) (below_size (by repeat (first | (with_reducible first | exact HB.out | apply below_alloc | apply pw_below_drewN | apply below_drew1 | refine below_set ?_ GE103.out) | exact HB.out)))); have n4_ := Aside0.mk (blk_below (g := gb103) (o := .cells #[.int .u32 a0, .int .i64 a1] 99 (0, 0)) (by (with_reducible repeat (first | refine blk_drewN ?_ _ | refine blk_drew ?_ | refine blk_alloc ?_ _)); exact BK103.out) hb); have n5_ := Aside0.mk (below_step (by repeat (first | (with_reducible first | exact HB.out | apply below_alloc | apply pw_below_drewN | apply below_drew1 | refine below_set ?_ GE103.out) | exact HB.out)) hb); clear HO107; clear HO110; clear HO113; clear BK103; clear HB; have HO107 := n0_; have HO110 := n1_; have HO113 := n2_; have HO117 := n3_; have BK103 := n4_; have HB := n5_; clear n0_ n1_ n2_ n3_ n4_ n5_; (try clear hb); (try clear hb2); (try clear hk); (try clear hi); (try clear ho0)))
    go_ret2
    exact ⟨_, by first | rfl | (simp [errW_none, errW_some] <;> rfl) | (simp [*, errW_none, errW_some] <;> rfl), by (with_reducible repeat (first | apply Kd.R_alloc | apply Kd.R_drewN | apply Kd.R_drew)); exact Kd.R_mono HO117.out (fun _ hk => trivial), by repeat (first | (with_reducible first | exact HB.out | apply below_alloc | apply pw_below_drewN | apply below_drew1 | refine below_set ?_ GE103.out) | exact HB.out)⟩
  · replace c4 := Bool.eq_false_iff.mpr c4
    subst c4
    have H1 : (some (([] : List Int), 1)) = some (r1, r2) := by rw [if_neg (show ¬ (false = true) by decide)] at H; exact H
    clear H
    have H := H1
    clear H1
    simp only [Option.some.injEq, Prod.mk.injEq] at H
    obtain ⟨rfl, rfl⟩ := H
    go_enter Try.func31, Try.ntmps31
    go_wp2_with (first | ((with_reducible refine gate_dst (N := 6) rfl ?_); refine box_event ?hg (N := 6) ?hd (cs := #[.int .u32 0, .int .i64 0]) (t := 99) ?hr ?_; (case hd => rfl); (case hg => rfl); (case hr => first | (go_simp; done) | (go_simp; rfl)); intro gb103 hg w21 hbox hb; have n0_ := Aside0.mk (below_step (by repeat (first | (with_reducible first | exact HB.out | apply below_alloc | apply pw_below_drewN | apply below_drew1) | exact HB.out)) hb); have n1_ := Aside0.mk (hbox); have n2_ := Aside0.mk ((by rw [hg]; exact (below_size (by repeat (first | (with_reducible first | exact HB.out | apply below_alloc | apply pw_below_drewN | apply below_drew1) | exact HB.out))) : w.heap.size ≤ gb103)); have n3_ := Aside0.mk ((by rw [hg]; exact (below_size (by repeat (first | (with_reducible first | exact HB.out | apply below_alloc | apply pw_below_drewN | apply below_drew1) | exact HB.out))) : w.heap.size ≤ gb103)); clear HB; have HB := n0_; have BK103 := n1_; have GW103 := n2_; have GE103 := n3_; clear n0_ n1_ n2_ n3_; clear hb hbox hg; have hcz22_0 : w21.cell? ⟨gb103, 0, none⟩ = some (.int .u32 0) := (blk_cell BK103.out 0).trans rfl; have hcz22_1 : w21.cell? ⟨gb103, 1, none⟩ = some (.int .i64 0) := (blk_cell BK103.out 1).trans rfl; have hfz22_0 := blk_frozen BK103.out 0; have hfz22_1 := blk_frozen BK103.out 1) | ((with_reducible refine gate_callee (f := 52) rfl ?_); refine goesL_ (some 12) rfl rfl Try.func52 (by kernel_rfl) rfl #[.agg #[.int .u32 a0, .int .i64 a1]] rfl (by (try simp only [List.map_toArray, List.map_cons, List.map_nil]); first | done | rfl | (simp only [List.length_drop, List.length_take]; rfl) | (rw [Go.Proofs.Ytdpodjgggicaoaa.H.u64_id _ (by simp only [decide_eq_false_iff_not, decide_eq_true_eq, Nat.not_lt, Int.not_lt] at *; omega) (by simp only [decide_eq_false_iff_not, decide_eq_true_eq, Nat.not_lt, Int.not_lt] at *; omega)]; rfl)) ?_; (with_reducible refine (segment_head_may.calls a0 a1 false _ A3.out).mono ?_); rintro e w23 ⟨rfl, hb⟩; refine ⟨_, rfl, ?_⟩; have n0_ := Aside0.mk (blk_below (g := gb103) (o := .cells #[.int .u32 a0, .int .i64 a1] 99 (0, 0)) (by (with_reducible repeat (first | refine blk_drewN ?_ _ | refine blk_drew ?_ | refine blk_alloc ?_ _)); refine blk_put (cs := #[.int .u32 a0, .int .i64 0]) ?_ 1 _ rfl; (with_reducible repeat (first | refine blk_drewN ?_ _ | refine blk_drew ?_ | refine blk_alloc ?_ _)); refine blk_put (cs := #[.int .u32 0, .int .i64 0]) ?_ 0 _ rfl; (with_reducible repeat (first | refine blk_drewN ?_ _ | refine blk_drew ?_ | refine blk_alloc ?_ _)); exact BK103.out) hb); have n1_ := Aside0.mk (below_step (by repeat (first | (with_reducible first | exact HB.out | apply below_alloc | apply pw_below_drewN | apply below_drew1 | refine below_set ?_ GE103.out) | exact HB.out)) hb); clear BK103; clear HB; have BK103 := n0_; have HB := n1_; clear n0_ n1_; (try clear hb); (try clear hb2); (try clear hk); (try clear hi)))
    go_ret2
    exact ⟨_, by first | rfl | (simp [errW_none, errW_some] <;> rfl) | (simp [*, errW_none, errW_some] <;> rfl), by first | exact Kd.R_nil _ _ _ _ _ | exact Kd.N_nil _ _ _ _ _ | exact Kd.V_nil _ _ _ _ _ | exact Kd.Q_nil _ _ _ _ _ | exact Kd.S_nil _ _ _ _ _, by repeat (first | (with_reducible first | exact HB.out | apply below_alloc | apply pw_below_drewN | apply below_drew1 | refine below_set ?_ GE103.out) | exact HB.out)⟩
def merkhetref02_Count.f (a0 : Int) : Option (Int) := if a0 < 0 then (some 0) else (if a0 > 8 then (some 8) else (some a0))
set_option maxHeartbeats 8000000 in
set_option maxRecDepth 100000 in
theorem merkhetref02_Count.calls (a0 : Int) (r : Int) (w : World) (h : merkhetref02_Count.f a0 = some r) :
    Calls Try.prog 59 #[.int .i64 a0] w fun e w' => e = .returned (.int .i64 r) ∧ Drawn0 w w' := by
  have H : (if a0 < 0 then (some 0) else (if a0 > 8 then (some 8) else (some a0))) = some r := h
  clear h
  by_cases c2 : a0 < 0
  · rw [if_pos c2] at H
    have c2b0 : decide (a0 < 0) = true := decide_eq_true c2
    clear c2
    obtain rfl := Option.some.inj H
    go_enter Try.func59, Try.ntmps59
    go_wp2
    go_ret
    exact ⟨by first | rfl | (simp; done) | (simp [*]; done), by repeat (first | exact Drawn0.refl _ | apply Drawn0.step)⟩
  · rw [if_neg c2] at H
    have c2b0 : decide (a0 < 0) = false := decide_eq_false c2
    clear c2
    by_cases c3 : a0 > 8
    · rw [if_pos c3] at H
      have c3b0 : decide (8 < a0) = true := decide_eq_true c3
      clear c3
      obtain rfl := Option.some.inj H
      go_enter Try.func59, Try.ntmps59
      go_wp2
      go_ret
      exact ⟨by first | rfl | (simp; done) | (simp [*]; done), by repeat (first | exact Drawn0.refl _ | apply Drawn0.step)⟩
    · rw [if_neg c3] at H
      have c3b0 : decide (8 < a0) = false := decide_eq_false c3
      clear c3
      obtain rfl := Option.some.inj H
      go_enter Try.func59, Try.ntmps59
      go_wp2
      go_ret
      exact ⟨by first | rfl | (simp; done) | (simp [*]; done), by repeat (first | exact Drawn0.refl _ | apply Drawn0.step)⟩
def merkhetref02_Put.l0 : Nat → Int → Int → ByteArray → Int → Option (ByteArray)
  | 0, _, _, _, _ => none
  | k + 1, x0, x1, x5, x6 => (merkhetref02_Count.f x1).bind fun t118 => (if x6 < t118 then ((some (([(Int.tmod x0 256) % 256] : List Int) : List Int)).bind fun y119 => (if x5.size + (strOfNums y119).size ≤ 9223372036854775807 then (merkhetref02_Put.l0 k (IntKind.u64.wrap (Int.tdiv x0 256)) x1 (x5 ++ (strOfNums y119)) (wrap64 (x6 + 1))) else (none))) else (some x5))
def merkhetref02_Put.f (k : Nat) (a0 : Int) (a1 : Int) : Option (ByteArray) := merkhetref02_Put.l0 k a0 a1 (⟨#[]⟩ : ByteArray) 0
theorem merkhetref02_Put.mono_l : ∀ k, (∀ y0 y1 y2 y3, LeO (merkhetref02_Put.l0 k y0 y1 y2 y3) (merkhetref02_Put.l0 (k + 1) y0 y1 y2 y3))
  | 0 => fun _ _ _ _ r h => by simp [merkhetref02_Put.l0] at h
  | k + 1 => by
    have ih0 := merkhetref02_Put.mono_l k
    · intro y0 y1 y2 y3
      unfold merkhetref02_Put.l0
      repeat' first
      | (with_reducible exact ih0 _ _ _ _)
      | (with_reducible exact LeO.refl _)
      | (with_reducible exact LeO.none _)
      | (with_reducible refine LeO.ite ?_ ?_)
      | (with_reducible refine LeO.bind ?_ (fun _ => ?_))
      | exact ih0 _ _ _ _
      | exact LeO.none _
      | refine LeO.ite ?_ ?_
      | refine LeO.bind ?_ (fun _ => ?_)
theorem merkhetref02_Put.mono : ∀ a0 a1 k, LeO (merkhetref02_Put.f k a0 a1) (merkhetref02_Put.f (k + 1) a0 a1) := by
  intro a0 a1 k
  have ih0 := merkhetref02_Put.mono_l k
  unfold merkhetref02_Put.f
  repeat' first
      | (with_reducible exact ih0 _ _ _ _)
      | (with_reducible exact LeO.refl _)
      | (with_reducible exact LeO.none _)
      | (with_reducible refine LeO.ite ?_ ?_)
      | (with_reducible refine LeO.bind ?_ (fun _ => ?_))
      | exact ih0 _ _ _ _
      | exact LeO.none _
      | refine LeO.ite ?_ ?_
      | refine LeO.bind ?_ (fun _ => ?_)
set_option maxHeartbeats 8000000 in
set_option maxRecDepth 100000 in
theorem merkhetref02_Put.calls (k : Nat) (a0 : Int) (a1 : Int) (r : ByteArray) (w : World) (h : merkhetref02_Put.f k a0 a1 = some r) :
    Calls Try.prog 41 #[.int .u64 a0, .int .i64 a1] w fun e w' => e = .returned (.string r) ∧ Below w.heap.size w w' := by
  have HB := Aside0.mk (Below.refl w.heap.size w)
  have H : (merkhetref02_Put.l0 k a0 a1 (⟨#[]⟩ : ByteArray) 0) = some r := h
  clear h
  have H' := Aside0.mk H
  clear H
  go_enter Try.func41, Try.ntmps41
  go_wp2
  go_loopg [0, 5, 6] k (fun kq v0 v5 v6 w' => ∃ (x0_1 : Int) (x5_1 : ByteArray) (x6_1 : Int), v0 = .int .u64 x0_1 ∧ v5 = .string x5_1 ∧ v6 = .int .i64 x6_1 ∧ Aside0 (merkhetref02_Put.l0 kq x0_1 a1 x5_1 x6_1 = some r) ∧ Aside0 (kq ≤ k) ∧ Aside0 (Below w.heap.size w w'))
  case atStart => exact ⟨(a0), ((⟨#[]⟩ : ByteArray)), (0), (by first | rfl | (simp; done) | (simp [*]; done)), (by first | rfl | (simp; done) | (simp [*]; done)), (by first | rfl | (simp; done) | (simp [*]; done)), H', ⟨Nat.le_refl _⟩, ⟨by repeat (first | (with_reducible first | exact HB.out | apply below_alloc | apply pw_below_drewN | apply below_drew1) | exact HB.out)⟩⟩
  case round =>
    clear H'
    try clear p2
    obtain ⟨x0_1, x5_1, x6_1, rfl, rfl, rfl, HA, HK1, HB⟩ := hrel
    cases gk with
    | zero => exact absurd HA.out (by simp [merkhetref02_Put.l0])
    | succ k1 =>
      have H := HA.out
      clear HA
      simp only [merkhetref02_Put.l0] at H
      replace H := Option.bind_eq_some_iff.mp H
      obtain ⟨t118, A30, H⟩ := H
      replace H : (if x6_1 < t118 then ((some (([(Int.tmod x0_1 256) % 256] : List Int) : List Int)).bind fun y119 => (if x5_1.size + (strOfNums y119).size ≤ 9223372036854775807 then (merkhetref02_Put.l0 k1 (IntKind.u64.wrap (Int.tdiv x0_1 256)) a1 (x5_1 ++ (strOfNums y119)) (wrap64 (x6_1 + 1))) else (none))) else (some x5_1)) = some r := H
      have A3 := Aside0.mk A30
      clear A30
      by_cases c4 : x6_1 < t118
      · rw [if_pos c4] at H
        have c4b0 : decide (x6_1 < t118) = true := decide_eq_true c4
        clear c4
        obtain ⟨y119, hy119⟩ : ∃ y_ : List Int, y_ = (([(Int.tmod x0_1 256) % 256] : List Int)) := ⟨_, rfl⟩
        replace H : (if x5_1.size + (strOfNums y119).size ≤ 9223372036854775807 then (merkhetref02_Put.l0 k1 (IntKind.u64.wrap (Int.tdiv x0_1 256)) a1 (x5_1 ++ (strOfNums y119)) (wrap64 (x6_1 + 1))) else (none)) = some r := by first | (rw [hy119]; with_reducible exact H) | (have H2_ := (Option.bind_some _ _).symm.trans H; rw [hy119]; with_reducible exact H2_) | (have H2_ := (Option.bind_some _ _).symm.trans H; with_reducible exact H2_) | with_reducible exact H | (rw [hy119]; exact H) | exact H
        have Ny119 := Aside0.mk hy119
        clear hy119
        by_cases c5 : x5_1.size + (strOfNums y119).size ≤ 9223372036854775807
        · rw [if_pos c5] at H
          have c5b0 := eq_true c5
          have c5b1 : decide (x5_1.size + (strOfNums y119).size ≤ 9223372036854775807) = true := decide_eq_true c5
          try have c5b2 : (9223372036854775807 < x5_1.size + (strOfNums y119).size) = False := eq_false (Nat.not_lt.2 c5)
          have H' := Aside0.mk H
          clear H
          go_wp2_with (first | ((with_reducible refine gate_callee (f := 59) rfl ?_); refine goesL_ (some 9) rfl rfl Try.func59 (by kernel_rfl) rfl #[.int .i64 a1] rfl (by (try simp only [List.map_toArray, List.map_cons, List.map_nil]); first | done | rfl | (simp only [List.length_drop, List.length_take]; rfl) | (rw [Go.Proofs.Ytdpodjgggicaoaa.H.u64_id _ (by simp only [decide_eq_false_iff_not, decide_eq_true_eq, Nat.not_lt, Int.not_lt] at *; omega) (by simp only [decide_eq_false_iff_not, decide_eq_true_eq, Nat.not_lt, Int.not_lt] at *; omega)]; rfl)) ?_; (with_reducible refine (merkhetref02_Count.calls a1 t118 _ A3.out).mono ?_); rintro e w' ⟨rfl, ⟨nd, rfl⟩⟩; refine ⟨_, rfl, ?_⟩) | ((with_reducible refine gate_dst (N := 17) rfl ?_); refine Kd.R_lit (Kd.int .u8) _ 5 ?hg (N := 17) ?hd (xs := ([(Int.tmod x0_1 256) % 256] : List Int)) (inner := [.int .u8 ((Int.tmod x0_1 256) % 256)]) (ok := fun _ => True) (okp := fun _ => True) ?hr ?hp (fun _ hk => hk) trivial (Below.refl _ _) (Nat.le_refl _) (by simp) ?_; (case hd => rfl); (case hg => rfl); (case hr => first | (go_simp; done) | (go_simp; rfl)); (case hp => exact (Reps.one (show Kd.M (Kd.int .u8) _ _ _ ((Int.tmod x0_1 256) % 256) [.int .u8 ((Int.tmod x0_1 256) % 256)] from rfl) (Reps.none _ _))); intro v120 w6 ho7 hb hg_ hnew_; clear hg_ hnew_; (first | rw [← Ny119.out] at ho7 | (simp only [Int.reduceToNat] at ho7; rw [← Ny119.out] at ho7)); have n0_ := Aside0.mk (Kd.R_lower ho7 (below_size (by repeat (first | (with_reducible first | exact HB.out | apply below_alloc | apply pw_below_drewN | apply below_drew1) | exact HB.out)))); have n1_ := Aside0.mk (below_step (by repeat (first | (with_reducible first | exact HB.out | apply below_alloc | apply pw_below_drewN | apply below_drew1) | exact HB.out)) hb); clear HB; have HO121 := n0_; have HB := n1_; clear n0_ n1_; clear hb ho7; have hcv8 := own_string (P := Try.prog) Try.underlying25 Try.underlying5 Try.underlying9 (Kd.own_of_R HO121.out)))
          go_roundg k1
          case measure => have := HK1.out; omega
          case rel => exact ⟨(IntKind.u64.wrap (Int.tdiv x0_1 256)), (x5_1 ++ (strOfNums y119)), (wrap64 (x6_1 + 1)), (by first | rfl | (simp; done) | (simp [*]; done)), (by first | rfl | (simp; done) | (simp [*]; done)), (by first | rfl | (simp; done) | (simp [*]; done)), H', ⟨by have := HK1.out; omega⟩, ⟨by repeat (first | (with_reducible first | exact HB.out | apply below_alloc | apply pw_below_drewN | apply below_drew1) | exact HB.out)⟩⟩
        · rw [if_neg c5] at H
          exact absurd H (by simp)
      · rw [if_neg c4] at H
        have c4b0 : decide (x6_1 < t118) = false := decide_eq_false c4
        clear c4
        obtain rfl := Option.some.inj H
        go_wp2_with (first | ((with_reducible refine gate_callee (f := 59) rfl ?_); refine goesL_ (some 9) rfl rfl Try.func59 (by kernel_rfl) rfl #[.int .i64 a1] rfl (by (try simp only [List.map_toArray, List.map_cons, List.map_nil]); first | done | rfl | (simp only [List.length_drop, List.length_take]; rfl) | (rw [Go.Proofs.Ytdpodjgggicaoaa.H.u64_id _ (by simp only [decide_eq_false_iff_not, decide_eq_true_eq, Nat.not_lt, Int.not_lt] at *; omega) (by simp only [decide_eq_false_iff_not, decide_eq_true_eq, Nat.not_lt, Int.not_lt] at *; omega)]; rfl)) ?_; (with_reducible refine (merkhetref02_Count.calls a1 t118 _ A3.out).mono ?_); rintro e w' ⟨rfl, ⟨nd, rfl⟩⟩; refine ⟨_, rfl, ?_⟩))
        go_ret
        exact ⟨by first | rfl | (simp [errW_none, errW_some] <;> rfl) | (simp [*, errW_none, errW_some] <;> rfl), by repeat (first | (with_reducible first | exact HB.out | apply below_alloc | apply pw_below_drewN | apply below_drew1) | exact HB.out)⟩
mutual
def merkhetref03_More.l0 : Nat → ByteArray → Int → Int → Option (Int)
  | 0, _, _, _ => none
  | k + 1, x1, x5, x6 => if x6 < (x1.size : Int) then (if 0 ≤ x6 then (merkhetref03_More.l1 k x1 x5 x6 ((bt x1 x6) % 4294967296) 0) else (none)) else (some ((4294967295 - x5) % 4294967296))
def merkhetref03_More.l1 : Nat → ByteArray → Int → Int → Int → Int → Option (Int)
  | 0, _, _, _, _, _ => none
  | k + 1, x1, x5, x6, x7, x8 => if x8 < 8 then (if (Int.tmod x5 2) = (Int.tmod x7 2) then (merkhetref03_More.l1 k x1 ((Int.tdiv x5 2) % 4294967296) x6 ((Int.tdiv x7 2) % 4294967296) (wrap64 (x8 + 1))) else (merkhetref03_More.l1 k x1 (Go.bits .xor .u32 ((Int.tdiv x5 2) % 4294967296) 3988292384) x6 ((Int.tdiv x7 2) % 4294967296) (wrap64 (x8 + 1)))) else (merkhetref03_More.l0 k x1 x5 (wrap64 (x6 + 1)))
end
def merkhetref03_More.f (k : Nat) (a0 : Int) (a1 : ByteArray) : Option (Int) := merkhetref03_More.l0 k a1 ((4294967295 - a0) % 4294967296) 0
theorem merkhetref03_More.mono_l : ∀ k, (∀ y0 y1 y2, LeO (merkhetref03_More.l0 k y0 y1 y2) (merkhetref03_More.l0 (k + 1) y0 y1 y2)) ∧ (∀ y0 y1 y2 y3 y4, LeO (merkhetref03_More.l1 k y0 y1 y2 y3 y4) (merkhetref03_More.l1 (k + 1) y0 y1 y2 y3 y4))
  | 0 => ⟨fun _ _ _ r h => by simp [merkhetref03_More.l0] at h, fun _ _ _ _ _ r h => by simp [merkhetref03_More.l1] at h⟩
  | k + 1 => by
    obtain ⟨ih0, ih1⟩ := merkhetref03_More.mono_l k
    refine ⟨?_, ?_⟩
    · intro y0 y1 y2
      unfold merkhetref03_More.l0
      repeat' first
      | (with_reducible exact ih0 _ _ _)
      | (with_reducible exact ih1 _ _ _ _ _)
      | (with_reducible exact LeO.refl _)
      | (with_reducible exact LeO.none _)
      | (with_reducible refine LeO.ite ?_ ?_)
      | (with_reducible refine LeO.bind ?_ (fun _ => ?_))
      | exact ih0 _ _ _
      | exact ih1 _ _ _ _ _
      | exact LeO.none _
      | refine LeO.ite ?_ ?_
      | refine LeO.bind ?_ (fun _ => ?_)
    · intro y0 y1 y2 y3 y4
      unfold merkhetref03_More.l1
      repeat' first
      | (with_reducible exact ih0 _ _ _)
      | (with_reducible exact ih1 _ _ _ _ _)
      | (with_reducible exact LeO.refl _)
      | (with_reducible exact LeO.none _)
      | (with_reducible refine LeO.ite ?_ ?_)
      | (with_reducible refine LeO.bind ?_ (fun _ => ?_))
      | exact ih0 _ _ _
      | exact ih1 _ _ _ _ _
      | exact LeO.none _
      | refine LeO.ite ?_ ?_
      | refine LeO.bind ?_ (fun _ => ?_)
theorem merkhetref03_More.mono : ∀ a0 a1 k, LeO (merkhetref03_More.f k a0 a1) (merkhetref03_More.f (k + 1) a0 a1) := by
  intro a0 a1 k
  obtain ⟨ih0, ih1⟩ := merkhetref03_More.mono_l k
  unfold merkhetref03_More.f
  repeat' first
      | (with_reducible exact ih0 _ _ _)
      | (with_reducible exact ih1 _ _ _ _ _)
      | (with_reducible exact LeO.refl _)
      | (with_reducible exact LeO.none _)
      | (with_reducible refine LeO.ite ?_ ?_)
      | (with_reducible refine LeO.bind ?_ (fun _ => ?_))
      | exact ih0 _ _ _
      | exact ih1 _ _ _ _ _
      | exact LeO.none _
      | refine LeO.ite ?_ ?_
      | refine LeO.bind ?_ (fun _ => ?_)
set_option maxHeartbeats 8000000 in
set_option maxRecDepth 100000 in
theorem merkhetref03_More.calls (k : Nat) (a0 : Int) (a1 : ByteArray) (r : Int) (w : World) (h : merkhetref03_More.f k a0 a1 = some r) :
    Calls Try.prog 60 #[.int .u32 a0, .string a1] w fun e w' => e = .returned (.int .u32 r) ∧ Drawn0 w w' := by
  have H : (merkhetref03_More.l0 k a1 ((4294967295 - a0) % 4294967296) 0) = some r := h
  clear h
  have H' := Aside0.mk H
  clear H
  go_enter Try.func60, Try.ntmps60
  go_wp2
  go_loopg [5, 6] k (fun kq v5 v6 w' => ∃ (x5_1 : Int) (x6_1 : Int), v5 = .int .u32 x5_1 ∧ v6 = .int .i64 x6_1 ∧ Aside0 (merkhetref03_More.l0 kq a1 x5_1 x6_1 = some r) ∧ Aside0 (kq ≤ k) ∧ Drawn0 w w')
  case atStart => exact ⟨((4294967295 - a0) % 4294967296), (0), (by first | rfl | (simp; done) | (simp [*]; done)), (by first | rfl | (simp; done) | (simp [*]; done)), H', ⟨Nat.le_refl _⟩, by repeat (first | exact Drawn0.refl _ | apply Drawn0.step)⟩
  case round =>
    clear H'
    try clear p2
    obtain ⟨x5_1, x6_1, rfl, rfl, HA, HK1, ⟨m1, rfl⟩⟩ := hrel
    cases gk with
    | zero => exact absurd HA.out (by simp [merkhetref03_More.l0])
    | succ k1 =>
      have H := HA.out
      clear HA
      simp only [merkhetref03_More.l0] at H
      by_cases c3 : x6_1 < (a1.size : Int)
      · rw [if_pos c3] at H
        have c3b0 : decide (x6_1 < (a1.size : Int)) = true := decide_eq_true c3
        clear c3
        by_cases c4 : 0 ≤ x6_1
        · rw [if_pos c4] at H
          have c4b0 : decide (0 ≤ x6_1) = true := decide_eq_true c4
          clear c4
          have H' := Aside0.mk H
          clear H
          have p5 : 0 ≤ (x6_1 : Int) := of_decide_eq_true (by first | (with_reducible assumption) | assumption)
          have q5 : x6_1 < (a1.size : Int) := of_decide_eq_true (by first | (with_reducible assumption) | assumption)
          have hx5 := bt_at a1 x6_1
          replace p5 := eq_true p5
          replace q5 := eq_true q5
          go_wp2
          go_loopg [5, 7, 8] k1 (fun kq v5 v7 v8 w' => ∃ (x5_2 : Int) (x7_2 : Int) (x8_2 : Int), v5 = .int .u32 x5_2 ∧ v7 = .int .u32 x7_2 ∧ v8 = .int .i64 x8_2 ∧ Aside0 (merkhetref03_More.l1 kq a1 x5_2 x6_1 x7_2 x8_2 = some r) ∧ Aside0 (kq ≤ k1) ∧ Drawn0 w w')
          case atStart => exact ⟨(x5_1), ((bt a1 x6_1) % 4294967296), (0), (by first | rfl | (simp; done) | (simp [*]; done)), (by first | rfl | (simp; done) | (simp [*]; done)), (by first | rfl | (simp; done) | (simp [*]; done)), H', ⟨Nat.le_refl _⟩, by repeat (first | exact Drawn0.refl _ | apply Drawn0.step)⟩
          case round =>
            clear H'
            try clear p2
            try clear c3
            try clear c3b0
            try clear c4
            try clear c4b0
            try clear p5
            try clear q5
            try clear hx5
            try clear p2
            try clear p5
            try clear q5
            obtain ⟨x5_2, x7_2, x8_2, rfl, rfl, rfl, HA, HK2, ⟨m2, rfl⟩⟩ := hrel
            cases gk with
            | zero => exact absurd HA.out (by simp [merkhetref03_More.l1])
            | succ k2 =>
              have H := HA.out
              clear HA
              simp only [merkhetref03_More.l1] at H
              by_cases c6 : x8_2 < 8
              · rw [if_pos c6] at H
                have c6b0 : decide (x8_2 < 8) = true := decide_eq_true c6
                clear c6
                by_cases c7 : (Int.tmod x5_2 2) = (Int.tmod x7_2 2)
                · rw [if_pos c7] at H
                  have c7b0 : ((Int.tmod x5_2 2) == (Int.tmod x7_2 2)) = true := beq_iff_eq.mpr c7
                  have c7b1 : ((Int.tmod x5_2 2) != (Int.tmod x7_2 2)) = false := bne_eq_false_iff_eq.mpr c7
                  clear c7
                  have H' := Aside0.mk H
                  clear H
                  go_wp2
                  go_roundg k2
                  case measure => have := HK1.out; have := HK2.out; omega
                  case rel => exact ⟨((Int.tdiv x5_2 2) % 4294967296), ((Int.tdiv x7_2 2) % 4294967296), (wrap64 (x8_2 + 1)), (by first | rfl | (simp; done) | (simp [*]; done)), (by first | rfl | (simp; done) | (simp [*]; done)), (by first | rfl | (simp; done) | (simp [*]; done)), H', ⟨by have := HK1.out; have := HK2.out; omega⟩, by repeat (first | exact Drawn0.refl _ | apply Drawn0.step)⟩
                · rw [if_neg c7] at H
                  have c7b0 : ((Int.tmod x5_2 2) == (Int.tmod x7_2 2)) = false := beq_eq_false_iff_ne.mpr c7
                  have c7b1 : ((Int.tmod x5_2 2) != (Int.tmod x7_2 2)) = true := bne_iff_ne.mpr c7
                  have H' := Aside0.mk H
                  clear H
                  go_wp2
                  go_roundg k2
                  case measure => have := HK1.out; have := HK2.out; omega
                  case rel => exact ⟨(Go.bits .xor .u32 ((Int.tdiv x5_2 2) % 4294967296) 3988292384), ((Int.tdiv x7_2 2) % 4294967296), (wrap64 (x8_2 + 1)), (by first | rfl | (simp; done) | (simp [*]; done)), (by first | rfl | (simp; done) | (simp [*]; done)), (by first | rfl | (simp; done) | (simp [*]; done)), H', ⟨by have := HK1.out; have := HK2.out; omega⟩, by repeat (first | exact Drawn0.refl _ | apply Drawn0.step)⟩
              · rw [if_neg c6] at H
                have c6b0 : decide (x8_2 < 8) = false := decide_eq_false c6
                clear c6
                have H' := Aside0.mk H
                clear H
                go_wp2
                go_roundg k2
                case measure => have := HK1.out; have := HK2.out; omega
                case rel => exact ⟨(x5_2), (wrap64 (x6_1 + 1)), (by first | rfl | (simp; done) | (simp [*]; done)), (by first | rfl | (simp; done) | (simp [*]; done)), H', ⟨by have := HK1.out; have := HK2.out; omega⟩, by repeat (first | exact Drawn0.refl _ | apply Drawn0.step)⟩
        · rw [if_neg c4] at H
          exact absurd H (by simp)
      · rw [if_neg c3] at H
        have c3b0 : decide (x6_1 < (a1.size : Int)) = false := decide_eq_false c3
        clear c3
        obtain rfl := Option.some.inj H
        go_wp2
        go_ret
        exact ⟨by first | rfl | (simp; done) | (simp [*]; done), by repeat (first | exact Drawn0.refl _ | apply Drawn0.step)⟩
def merkhetref03_Sum.f (k : Nat) (a0 : ByteArray) : Option (Int) := (merkhetref03_More.f k 0 a0).bind fun t122 => (some t122)
theorem merkhetref03_Sum.mono : ∀ a0 k, LeO (merkhetref03_Sum.f k a0) (merkhetref03_Sum.f (k + 1) a0) := by
  intro a0 k
  unfold merkhetref03_Sum.f
  repeat' first
      | (with_reducible exact merkhetref03_More.mono _ _ _)
      | (with_reducible exact LeO.refl _)
      | (with_reducible exact LeO.none _)
      | (with_reducible refine LeO.ite ?_ ?_)
      | (with_reducible refine LeO.bind ?_ (fun _ => ?_))
      | exact merkhetref03_More.mono _ _ _
      | exact LeO.none _
      | refine LeO.ite ?_ ?_
      | refine LeO.bind ?_ (fun _ => ?_)
set_option maxHeartbeats 8000000 in
set_option maxRecDepth 100000 in
theorem merkhetref03_Sum.calls (k : Nat) (a0 : ByteArray) (r : Int) (w : World) (h : merkhetref03_Sum.f k a0 = some r) :
    Calls Try.prog 42 #[.string a0] w fun e w' => e = .returned (.int .u32 r) ∧ Drawn0 w w' := by
  have H : ((merkhetref03_More.f k 0 a0).bind fun t122 => (some t122)) = some r := h
  clear h
  replace H := Option.bind_eq_some_iff.mp H
  obtain ⟨t122, A20, H⟩ := H
  replace H : (some t122) = some r := H
  have A2 := Aside0.mk A20
  clear A20
  obtain rfl := Option.some.inj H
  go_enter Try.func42, Try.ntmps42
  go_wp2_with (first | ((with_reducible refine gate_callee (f := 60) rfl ?_); refine goesL_ (some 4) rfl rfl Try.func60 (by kernel_rfl) rfl #[.int .u32 0, .string a0] rfl (by (try simp only [List.map_toArray, List.map_cons, List.map_nil]); first | done | rfl | (simp only [List.length_drop, List.length_take]; rfl)) ?_; (with_reducible refine (merkhetref03_More.calls k 0 a0 t122 _ A2.out).mono ?_); rintro e w' ⟨rfl, ⟨nd, rfl⟩⟩; refine ⟨_, rfl, ?_⟩))
  go_ret
  exact ⟨by first | rfl | (simp; done) | (simp [*]; done), by repeat (first | exact Drawn0.refl _ | apply Drawn0.step)⟩
end Go.Proofs.Ytdpodjgggicaoaa.SS
