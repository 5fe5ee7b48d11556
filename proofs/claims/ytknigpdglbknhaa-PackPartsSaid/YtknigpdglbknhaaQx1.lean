-- WRITTEN FOR THIS CLAIM by wip/tools/mp.py, a program of this project that drives the kit's print; the functions that the print does not take are this project's own texts.
import Derived.Test.YtknigpdglbknhaaQx0
namespace Go.Proofs.Ytknigpdglbknhaa.Q
open Go.RowKit Go.Proofs.YtknigpdglbknhaaW.PrintWords Go.Proofs.YtknigpdglbknhaaW.PrintLast Go.Proofs.YtknigpdglbknhaaW.PrintMore
attribute [local go_sem] max2_int min2_int max_two min_two max_three min_three max_four min_four   -- for this text's walks alone
set_option linter.unusedVariables false
set_option linter.unusedSimpArgs false

/-! ### slices_Clone_byte_byte: function 38 -/
def slices_Clone_byte_byte.f (l0 : List Int) : Option (List Int) := if l0.length < 140737488355328 then some l0 else none
theorem slices_Clone_byte_byte_nil : Aside0 (∀ (a : Option Addr) (n c : Nat) (w : World), Sem.run Try.prog (binOp .eql 22 (.slice a n c) (.slice none 0 0)) w = .ok (.bool a.isNone) w) := ⟨fun a n c w => Go.run_eql_slice_nil w 22 5 a n c Try.underlying22⟩
set_option maxHeartbeats 8000000 in
set_option maxRecDepth 100000 in
theorem slices_Clone_byte_byte.calls (A0 : Option Addr) (c0 : Nat) (l0 : List Int) (r : List Int) (w : World) (hr0 : Kd.C (Kd.int .u8) w A0 l0.length l0) (hc0 : l0.length ≤ c0) (h : slices_Clone_byte_byte.f l0 = some r) :
    Calls Try.prog 38 #[.slice A0 l0.length c0] w fun e w' => ∃ v0_ : Value, e = .returned (v0_) ∧ Kd.R (Kd.int .u8) 5 w' w.heap.size (fun _ => True) v0_ r ∧ Below w.heap.size w w' := by
  have HR0 := Aside0.mk hr0
  have HB := Aside0.mk (Below.refl w.heap.size w)
  unfold slices_Clone_byte_byte.f at h
  by_cases hl : l0.length < 140737488355328
  · rw [if_pos hl] at h
    obtain rfl := Option.some.inj h
    have LM := Aside0.mk hl
    clear h hr0 hl
    cases A0 with
    | none =>
      have hn := slices_Clone_byte_byte_nil.out none l0.length c0
      have hnil : l0 = [] := by
        rcases Nat.eq_zero_or_pos l0.length with h0 | h0
        · exact List.eq_nil_of_length_eq_zero h0
        · obtain ⟨ad, e, _⟩ := HR0.out.2.2 h0
          cases e
      have HN := Aside0.mk hnil
      clear hnil
      go_enter Try.func38, Try.ntmps38
      go_wp2
      go_ret
      exact ⟨.slice none 0 0, rfl, by rw [HN.out]; exact Kd.R_nil _ _ _ _ _, HB.out⟩
    | some ad =>
      have hn := slices_Clone_byte_byte_nil.out (some ad) l0.length c0
      go_enter Try.func38, Try.ntmps38
      go_wp2_with (first
        | ((with_reducible refine gate_dst (N := 5) rfl ?_); refine Kd.R_lit (Kd.int .u8) _ 5 ?hg (N := 5) ?hd (xs := []) (inner := []) (ok := fun _ => True) (okp := fun _ => True) ?hr ?hp (fun _ hk => hk) trivial (Below.refl _ _) (Nat.le_refl _) (by simp) ?_; (case hd => rfl); (case hg => rfl); (case hr => first | (go_simp; done) | (go_simp; rfl)); (case hp => exact (Reps.none _ _)); intro v1 w1 ho hb hg_ hnew_; clear hg_ hnew_; have HO1 := Aside0.mk ho; have HB1 := Aside0.mk hb; clear ho hb)
        | (at_builtin; refine Kd.R_append_rows (Kd.int .u8) (w0 := w) w.heap.size rfl (.tmp 5) (.tmp 6) 22 5 (.int .u8 0) 1 rfl Try.underlying22 info5 rfl (by decide) (by omega) v1 [] l0 _ _ _ (fun _ => True) (fun _ => False) rfl rfl HO1.out (Kd.C_below HR0.out HB1.out) (fun _ _ h => h) (fun _ h => h.elim) (fun _ _ => trivial) HB1.out (below_size HB1.out) (by have := LM.out; simp only [List.length_nil]; omega) ?_; intro v2 w2 ho hb hg hat; clear hg hat; have HO2 := Aside0.mk ho; have HB2 := Aside0.mk hb; clear ho hb))
      go_ret
      exact ⟨v2, rfl, HO2.out, HB2.out⟩
  · rw [if_neg hl] at h
    exact absurd h (by simp)


/-! ### pack_count: function 39 -/
def pack_count.f (a0 : Int) : Option (Int) := some (mn (mx a0 0) 8)
set_option maxHeartbeats 8000000 in
set_option maxRecDepth 100000 in
theorem pack_count.calls (a0 : Int) (r : Int) (w : World) (h : pack_count.f a0 = some r) :
    Calls Try.prog 39 #[.int .i64 a0] w fun e w' => e = .returned (.int .i64 r) ∧ Below w.heap.size w w' := by
  have HB := Aside0.mk (Below.refl w.heap.size w)
  have H : (some (mn (mx a0 0) 8)) = some r := h
  clear h
  obtain ⟨ji2, hji2⟩ : ∃ j_ : Int, (mx a0 0) = j_ := ⟨_, rfl⟩
  replace H : (some (mn (ji2) 8)) = some r := by first | (rw [hji2] at H; exact H) | (simp only [hji2] at H ⊢; exact H)
  (try (have hji2l : 0 ≤ ji2 := by (rw [← hji2]; unfold mx; (repeat' split) <;> omega)))
  (try (have hji2m : 0 ≤ ji2 := by omega))
  have hji2_ : (if a0 < 0 then 0 else a0) = ji2 := hji2
  obtain ⟨ji3, hji3⟩ : ∃ j_ : Int, (mn (ji2) 8) = j_ := ⟨_, rfl⟩
  replace H : (some ji3) = some r := by first | (rw [hji3] at H; exact H) | (simp only [hji3] at H ⊢; exact H)
  have hji3_ : (if 8 < (ji2) then 8 else (ji2)) = ji3 := hji3
  obtain rfl := Option.some.inj H
  go_enter Try.func39, Try.ntmps39
  go_wp2
  go_ret
  exact ⟨by first | rfl | (simp [errW_none, errW_some] <;> rfl) | (simp only [← hji2, ← hji3]; first | rfl | (simp [errW_none, errW_some] <;> rfl)) | (simp [*, errW_none, errW_some] <;> rfl), by repeat (first | (with_reducible first | exact HB.out | apply below_alloc | apply pw_below_drewN | apply below_drew1) | exact HB.out)⟩

/-! ### pack_Put: function 20 -/
/-- The lowest bytes of a number, the lowest first. -/
def putNums : Nat → Int → List Int
  | 0, _ => []
  | k + 1, n => (n % 256) :: putNums k (n / 256)
def pack_Put.f (l0 : List Int) (a1 a2 : Int) : Option (List Int) := if l0.length + 8 < 140737488355328 then some (l0 ++ putNums (mn (mx a2 0) 8).toNat a1) else none
theorem putNums_step (acc : List Int) (m : Nat) (n : Int) : (acc ++ [n % 256]) ++ putNums m (n / 256) = acc ++ putNums (m + 1) n := by simp [putNums]
set_option maxHeartbeats 8000000 in
set_option maxRecDepth 100000 in
theorem pack_Put.calls (A0 : Option Addr) (c0 : Nat) (l0 : List Int) (a1 a2 : Int) (r : List Int) (w : World) (hr0 : Kd.C (Kd.int .u8) w A0 l0.length l0) (hc0 : l0.length ≤ c0) (h : pack_Put.f l0 a1 a2 = some r) :
    Calls Try.prog 20 #[.slice A0 l0.length c0, .int .u64 a1, .int .i64 a2] w fun e w' => ∃ v0_ : Value, e = .returned (v0_) ∧ Kd.R (Kd.int .u8) 5 w' w.heap.size (fun _ => True) v0_ r ∧ Below w.heap.size w w' := by
  have HR0 := Aside0.mk hr0
  have HC0 := Aside0.mk hc0
  unfold pack_Put.f at h
  by_cases hl : l0.length + 8 < 140737488355328
  · rw [if_pos hl] at h
    have HR := Aside0.mk (Option.some.inj h)
    have LM := Aside0.mk hl
    obtain ⟨m0, hm0⟩ : ∃ m0 : Nat, (mn (mx a2 0) 8) = (m0 : Int) ∧ m0 ≤ 8 := by
      refine ⟨(mn (mx a2 0) 8).toNat, ?_, ?_⟩ <;> unfold mn mx <;> split <;> (try split) <;> omega
    have hcount : pack_count.f a2 = some (m0 : Int) := by unfold pack_count.f; rw [hm0.1]
    have hclone : slices_Clone_byte_byte.f l0 = some l0 := by unfold slices_Clone_byte_byte.f; rw [if_pos (by omega)]
    have HCo := Aside0.mk hcount
    have HCl := Aside0.mk hclone
    rw [hm0.1, Int.toNat_natCast] at HR
    have hm8 := hm0.2
    clear h hr0 hc0 hl hm0 hcount hclone
    go_enter Try.func20, Try.ntmps20
    go_wp2
    refine wp_scope_jumps 0 (fun a' w' => ∃ (m : Nat) (n : Int) (acc : List Int) (v : Value) (u9 u10 u11 u12 u13 u14 u15 u16 u17 u18 u19 u20 u21 u22 u23 u24 : Value), a' = { tmps := #[.slice A0 l0.length c0, .int .u64 n, .int .i64 a2, undef, undef, undef, .slice none 0 0, v, .int .i64 m, u9, u10, u11, u12, u13, u14, u15, u16, u17, u18, u19, u20, u21, u22, u23, u24], defers := [] } ∧ m ≤ 8 ∧ Aside0 (acc.length + m ≤ l0.length + 8) ∧ Aside0 (Kd.R (Kd.int .u8) 5 w' w.heap.size (fun _ => True) v acc) ∧ Aside0 (Below w.heap.size w w') ∧ Aside0 (acc ++ putNums m n = r)) (fun a' _ => (intOf (a'.tmps.getD 8 undef)).toNat) rfl ?_ ?_
    · go_wp2_with (first
        | (go_at_call 38; (with_reducible refine (slices_Clone_byte_byte.calls _ _ l0 l0 _ HR0.out HC0.out HCl.out).mono ?_); rintro e w1 ⟨v1, rfl, ho, hb⟩; have HO1 := Aside0.mk ho; have HB1 := Aside0.mk hb; clear ho hb)
        | (go_at_call 39; (with_reducible refine (pack_count.calls _ _ _ HCo.out).mono ?_); rintro e w2 ⟨rfl, hb⟩; have HB2 := Aside0.mk (below_step HB1.out hb); have HO2 := Aside0.mk (Kd.R_below HO1.out hb); clear hb))
      go_step3
      by_cases hz : 0 < m0
      · obtain ⟨m, rfl⟩ : ∃ m, m0 = m + 1 := ⟨m0 - 1, by omega⟩
        have HLN := Aside0.mk (show l0.length ≤ l0.length + 8 by omega)
        have hz2 : (0 : Int) < ((m + 1 : Nat) : Int) := by omega
        go_wp2_with (first
          | (at_builtin; refine Kd.R_append (Kd.int .u8) (w0 := w) w.heap.size rfl (.tmp 15) (.tmp 18) 22 5 (.int .u8 0) 1 rfl Try.underlying22 info5 rfl (by decide) (by omega) v1 l0 (a1 % 256) [.int .u8 (a1 % 256)] (fun _ => True) (fun _ => False) rfl rfl ?aP (fun _ hk => hk.elim) ?aF ?aO ?aB ?aS ?aL ?_; (case aP => exact rfl); (case aF => exact (fun _ _ => trivial)); (case aO => exact (by (with_reducible repeat (first | apply Kd.R_alloc | apply Kd.R_drewN | apply Kd.R_drew)); exact HO2.out)); (case aB => exact (by repeat (first | (with_reducible first | exact HB2.out | apply below_alloc | apply pw_below_drewN | apply below_drew1) | exact HB2.out))); (case aS => exact (below_size (by repeat (first | (with_reducible first | exact HB2.out | apply below_alloc | apply pw_below_drewN | apply below_drew1) | exact HB2.out)))); (case aL => have := LM.out; have := HLN.out; omega); intro v5 w5 ho hb hg hat; clear hg hat; have HO5 := Aside0.mk ho; have HB5 := Aside0.mk hb; clear ho hb))
        go_step3
        refine ⟨rfl, m, a1 / 256, l0 ++ [a1 % 256], v5, _, _, _, _, _, _, _, _, _, _, _, _, _, _, _, _, rfl, by omega, ⟨by simp; omega⟩, HO5, HB5, ⟨by rw [putNums_step]; exact HR.out⟩⟩
      · obtain rfl : m0 = 0 := by omega
        go_wp2
        simp only [Exit.jump]
        go_ret
        exact ⟨v1, rfl, by have e := HR.out; simp only [putNums, List.append_nil] at e; rw [← e]; exact HO2.out, HB2.out⟩
    · rintro a' w2 ⟨m0, n, acc, v, u9, u10, u11, u12, u13, u14, u15, u16, u17, u18, u19, u20, u21, u22, u23, u24, rfl, hm0, HLN, HO2, HB2, HR2⟩
      by_cases hz : 0 < m0
      · obtain ⟨m, rfl⟩ : ∃ m, m0 = m + 1 := ⟨m0 - 1, by omega⟩
        have hz2 : (0 : Int) < ((m + 1 : Nat) : Int) := by omega
        go_wp2_with (first
          | (at_builtin; refine Kd.R_append (Kd.int .u8) (w0 := w) w.heap.size rfl (.tmp 15) (.tmp 18) 22 5 (.int .u8 0) 1 rfl Try.underlying22 info5 rfl (by decide) (by omega) v acc (n % 256) [.int .u8 (n % 256)] (fun _ => True) (fun _ => False) rfl rfl ?aP (fun _ hk => hk.elim) ?aF ?aO ?aB ?aS ?aL ?_; (case aP => exact rfl); (case aF => exact (fun _ _ => trivial)); (case aO => exact (by (with_reducible repeat (first | apply Kd.R_alloc | apply Kd.R_drewN | apply Kd.R_drew)); exact HO2.out)); (case aB => exact (by repeat (first | (with_reducible first | exact HB2.out | apply below_alloc | apply pw_below_drewN | apply below_drew1) | exact HB2.out))); (case aS => exact (below_size (by repeat (first | (with_reducible first | exact HB2.out | apply below_alloc | apply pw_below_drewN | apply below_drew1) | exact HB2.out)))); (case aL => have := LM.out; have := HLN.out; omega); intro v5 w5 ho hb hg hat; clear hg hat; have HO5 := Aside0.mk ho; have HB5 := Aside0.mk hb; clear ho hb))
        go_step3
        refine ⟨rfl, ⟨m, n / 256, acc ++ [n % 256], v5, _, _, _, _, _, _, _, _, _, _, _, _, _, _, _, _, rfl, by omega, ⟨by have := HLN.out; simp; omega⟩, HO5, HB5, ⟨by rw [putNums_step]; exact HR2.out⟩⟩, ?_⟩
        simp [intOf]
      · obtain rfl : m0 = 0 := by omega
        go_wp2
        simp only [Exit.jump]
        go_ret
        exact ⟨v, rfl, by have e := HR2.out; simp only [putNums, List.append_nil] at e; rw [← e]; exact HO2.out, HB2.out⟩
  · rw [if_neg hl] at h
    exact absurd h (by simp)


/-! ### pack_PutText: function 25 -/
def pack_PutText.f (l0 : List Int) (a1 : ByteArray) : Option (List Int) := (slices_Clone_byte_byte.f l0).bind fun t101 => (if (a1.size : Int) > 16 then (some t101) else (if t101.length < 140737488355328 then ((some (t101 ++ [((a1.size : Int)) % 256] : List Int)).bind fun y104 => (if y104.length + a1.size < 140737488355328 then ((some (y104 ++ bytesOf a1 : List Int)).bind fun y107 => (if 0 ≤ (wrap64 (16 - (a1.size : Int))) then (if y107.length + (wrap64 (16 - (a1.size : Int)) : Int).toNat < 140737488355328 then (some (y107 ++ List.replicate (wrap64 (16 - (a1.size : Int)) : Int).toNat 0)) else (none)) else (none))) else (none))) else (none)))
set_option maxHeartbeats 8000000 in
set_option maxRecDepth 100000 in
theorem pack_PutText.calls (A0 : Option Addr) (c0 : Nat) (l0 : List Int) (a1 : ByteArray) (r : List Int) (w : World) (hr0 : Kd.C (Kd.int .u8) w A0 l0.length l0) (hc0 : l0.length ≤ c0) (h : pack_PutText.f l0 a1 = some r) :
    Calls Try.prog 25 #[.slice A0 l0.length c0, .string a1] w fun e w' => ∃ v0_ : Value, e = .returned (v0_) ∧ Kd.R (Kd.int .u8) 5 w' w.heap.size (fun _ => True) v0_ r ∧ Below w.heap.size w w' := by
  have HR0 := Aside0.mk hr0
  have HC0 := Aside0.mk hc0
  clear hr0 hc0
  have HB := Aside0.mk (Below.refl w.heap.size w)
  have H : ((slices_Clone_byte_byte.f l0).bind fun t101 => (if (a1.size : Int) > 16 then (some t101) else (if t101.length < 140737488355328 then ((some (t101 ++ [((a1.size : Int)) % 256] : List Int)).bind fun y104 => (if y104.length + a1.size < 140737488355328 then ((some (y104 ++ bytesOf a1 : List Int)).bind fun y107 => (if 0 ≤ (wrap64 (16 - (a1.size : Int))) then (if y107.length + (wrap64 (16 - (a1.size : Int)) : Int).toNat < 140737488355328 then (some (y107 ++ List.replicate (wrap64 (16 - (a1.size : Int)) : Int).toNat 0)) else (none)) else (none))) else (none))) else (none)))) = some r := h
  clear h
  replace H := Option.bind_eq_some_iff.mp H
  obtain ⟨t101, A30, H⟩ := H
  replace H : (if (a1.size : Int) > 16 then (some t101) else (if t101.length < 140737488355328 then ((some (t101 ++ [((a1.size : Int)) % 256] : List Int)).bind fun y104 => (if y104.length + a1.size < 140737488355328 then ((some (y104 ++ bytesOf a1 : List Int)).bind fun y107 => (if 0 ≤ (wrap64 (16 - (a1.size : Int))) then (if y107.length + (wrap64 (16 - (a1.size : Int)) : Int).toNat < 140737488355328 then (some (y107 ++ List.replicate (wrap64 (16 - (a1.size : Int)) : Int).toNat 0)) else (none)) else (none))) else (none))) else (none))) = some r := H
  have A3 := Aside0.mk A30
  clear A30
  by_cases c4 : (a1.size : Int) > 16
  · rw [if_pos c4] at H
    have c4b0 : decide (16 < (a1.size : Int)) = true := decide_eq_true c4
    have c4b1 : decide (16 < a1.size) = true := decide_eq_true (by omega)
    clear c4
    obtain rfl := Option.some.inj H
    go_enter Try.func25, Try.ntmps25
    go_wp2_with (first | ((with_reducible refine gate_callee (f := 38) rfl ?_); refine goesL_ (some 7) rfl rfl Try.func38 (by kernel_rfl) rfl #[.slice A0 l0.length c0] rfl (by (try simp only [List.map_toArray, List.map_cons, List.map_nil]); first | done | rfl | (simp only [List.length_drop, List.length_take]; rfl)) ?_; (with_reducible refine (slices_Clone_byte_byte.calls _ _ l0 t101 _ ?side1 ?side2 A3.out).mono ?_); (case side1 => repeat (first | exact HR0.out | (with_reducible refine Kd.C_alloc ?_ _) | (with_reducible refine Kd.C_drewN ?_ _) | (with_reducible refine Kd.C_drew ?_))); (case side2 => exact HC0.out); rintro e w5 ⟨v102, rfl, ho0, hb⟩; refine ⟨_, rfl, ?_⟩; have n0_ := Aside0.mk (Kd.R_lower ho0 (below_size (by repeat (first | (with_reducible first | exact HB.out | apply below_alloc | apply pw_below_drewN | apply below_drew1) | exact HB.out)))); have n1_ := Aside0.mk (below_step (by repeat (first | (with_reducible first | exact HB.out | apply below_alloc | apply pw_below_drewN | apply below_drew1) | exact HB.out)) hb); clear HB; have HO103 := n0_; have HB := n1_; clear n0_ n1_; (try clear hb); (try clear hb2); (try clear hk); (try clear hi); (try clear ho0)))
    go_ret
    exact ⟨_, by first | rfl | (simp [errW_none, errW_some] <;> rfl) | (simp [*, errW_none, errW_some] <;> rfl), by (with_reducible repeat (first | apply Kd.R_alloc | apply Kd.R_drewN | apply Kd.R_drew)); exact HO103.out, by repeat (first | (with_reducible first | exact HB.out | apply below_alloc | apply pw_below_drewN | apply below_drew1) | exact HB.out)⟩
  · rw [if_neg c4] at H
    have c4b0 : decide (16 < (a1.size : Int)) = false := decide_eq_false c4
    have c4b1 : decide (16 < a1.size) = false := decide_eq_false (by omega)
    clear c4
    by_cases c6 : t101.length < 140737488355328
    · rw [if_pos c6] at H
      have LMc6 := Aside0.mk c6
      clear c6
      obtain ⟨y104, hy104⟩ : ∃ y_ : List Int, y_ = (t101 ++ [((a1.size : Int)) % 256]) := ⟨_, rfl⟩
      replace H : (if y104.length + a1.size < 140737488355328 then ((some (y104 ++ bytesOf a1 : List Int)).bind fun y107 => (if 0 ≤ (wrap64 (16 - (a1.size : Int))) then (if y107.length + (wrap64 (16 - (a1.size : Int)) : Int).toNat < 140737488355328 then (some (y107 ++ List.replicate (wrap64 (16 - (a1.size : Int)) : Int).toNat 0)) else (none)) else (none))) else (none)) = some r := by first | (rw [hy104]; with_reducible exact H) | (have H2_ := (Option.bind_some _ _).symm.trans H; rw [hy104]; with_reducible exact H2_) | (have H2_ := (Option.bind_some _ _).symm.trans H; with_reducible exact H2_) | with_reducible exact H | (rw [hy104]; exact H) | exact H
      have Ny104 := Aside0.mk hy104
      clear hy104
      by_cases c7 : y104.length + a1.size < 140737488355328
      · rw [if_pos c7] at H
        have LMc7 := Aside0.mk c7
        clear c7
        obtain ⟨y107, hy107⟩ : ∃ y_ : List Int, y_ = (y104 ++ bytesOf a1) := ⟨_, rfl⟩
        replace H : (if 0 ≤ (wrap64 (16 - (a1.size : Int))) then (if y107.length + (wrap64 (16 - (a1.size : Int)) : Int).toNat < 140737488355328 then (some (y107 ++ List.replicate (wrap64 (16 - (a1.size : Int)) : Int).toNat 0)) else (none)) else (none)) = some r := by first | (rw [hy107]; with_reducible exact H) | (have H2_ := (Option.bind_some _ _).symm.trans H; rw [hy107]; with_reducible exact H2_) | (have H2_ := (Option.bind_some _ _).symm.trans H; with_reducible exact H2_) | with_reducible exact H | (rw [hy107]; exact H) | exact H
        have Ny107 := Aside0.mk hy107
        clear hy107
        obtain ⟨ji8, hji8⟩ : ∃ j_ : Int, (wrap64 (16 - (a1.size : Int))) = j_ := ⟨_, rfl⟩
        replace H : (if 0 ≤ (ji8) then (if y107.length + (ji8 : Int).toNat < 140737488355328 then (some (y107 ++ List.replicate (ji8 : Int).toNat 0)) else (none)) else (none)) = some r := by first | (rw [hji8] at H; exact H) | (simp only [hji8] at H ⊢; exact H)
        (try rw [hji8] at A3)
        have hji8w : (IntKind.i64.wrap (16 - (a1.size : Int))) = ji8 := (i64_w _).trans hji8
        by_cases c9 : 0 ≤ (ji8)
        · rw [if_pos c9] at H
          have c9b0 := eq_true c9
          have c9b1 : decide (0 ≤ (ji8)) = true := decide_eq_true c9
          clear c9
          by_cases c10 : y107.length + (ji8 : Int).toNat < 140737488355328
          · rw [if_pos c10] at H
            have LMc10 := Aside0.mk c10
            clear c10
            obtain ⟨y110, hy110⟩ : ∃ y_ : List Int, y_ = (y107 ++ List.replicate (ji8 : Int).toNat 0) := ⟨_, rfl⟩
            replace H : (some y110) = some r := by first | (rw [hy110]; with_reducible exact H) | (have H2_ := (Option.bind_some _ _).symm.trans H; rw [hy110]; with_reducible exact H2_) | (have H2_ := (Option.bind_some _ _).symm.trans H; with_reducible exact H2_) | with_reducible exact H | (rw [hy110]; exact H) | exact H
            have Ny110 := Aside0.mk hy110
            clear hy110
            obtain rfl := Option.some.inj H
            go_enter Try.func25, Try.ntmps25
            go_wp2_with (first | ((with_reducible refine gate_callee (f := 38) rfl ?_); refine goesL_ (some 7) rfl rfl Try.func38 (by kernel_rfl) rfl #[.slice A0 l0.length c0] rfl (by (try simp only [List.map_toArray, List.map_cons, List.map_nil]); first | done | rfl | (simp only [List.length_drop, List.length_take]; rfl)) ?_; (with_reducible refine (slices_Clone_byte_byte.calls _ _ l0 t101 _ ?side1 ?side2 A3.out).mono ?_); (case side1 => repeat (first | exact HR0.out | (with_reducible refine Kd.C_alloc ?_ _) | (with_reducible refine Kd.C_drewN ?_ _) | (with_reducible refine Kd.C_drew ?_))); (case side2 => exact HC0.out); rintro e w11 ⟨v102, rfl, ho0, hb⟩; refine ⟨_, rfl, ?_⟩; have n0_ := Aside0.mk (Kd.R_lower ho0 (below_size (by repeat (first | (with_reducible first | exact HB.out | apply below_alloc | apply pw_below_drewN | apply below_drew1) | exact HB.out)))); have n1_ := Aside0.mk (below_step (by repeat (first | (with_reducible first | exact HB.out | apply below_alloc | apply pw_below_drewN | apply below_drew1) | exact HB.out)) hb); clear HB; have HO103 := n0_; have HB := n1_; clear n0_ n1_; (try clear hb); (try clear hb2); (try clear hk); (try clear hi); (try clear ho0)) | ((with_reducible refine gate_builtin (b := .append) (xs := #[.tmp 12, .tmp 16]) rfl ?_); at_builtin; refine Kd.R_append (Kd.int .u8) (w0 := w) w.heap.size rfl (.tmp 12) (.tmp 16) 22 5 (.int .u8 0) 1 rfl Try.underlying22 info5 rfl (by decide) (by omega) v102 t101 (((a1.size : Int)) % 256) [.int .u8 (((a1.size : Int)) % 256)] (fun _ => True) (fun _ => False) rfl rfl ?aP (fun _ hk => hk.elim) ?aF ?aO ?aB ?aS ?aL ?_; (case aP => exact rfl); (case aB => exact (by repeat (first | (with_reducible first | exact HB.out | apply below_alloc | apply pw_below_drewN | apply below_drew1) | exact HB.out))); (case aF => exact (fun _ _ => trivial)); (case aO => exact (by (with_reducible repeat (first | apply Kd.R_alloc | apply Kd.R_drewN | apply Kd.R_drew)); exact HO103.out)); (case aS => exact (below_size (by repeat (first | (with_reducible first | exact HB.out | apply below_alloc | apply pw_below_drewN | apply below_drew1) | exact HB.out)))); (case aL => have := LMc6.out; omega); intro v105 w12 ho hb hg hat; rw [← Ny104.out] at ho; have n0_ := Aside0.mk (hb); have n1_ := Aside0.mk (ho); clear HB; clear HO103; have HB := n0_; have HO106 := n1_; clear n0_ n1_; clear ho hb hg hat) | (at_builtin; refine print_append_str (w0 := w) w.heap.size rfl (.tmp 17) _ 22 9 5 rfl Try.underlying22 Try.underlying9 info5 v105 y104 a1 rfl rfl ?aO ?aB ?aS ?aL ?_; (case aB => exact (by repeat (first | (with_reducible first | exact HB.out | apply below_alloc | apply pw_below_drewN | apply below_drew1) | exact HB.out))); (case aO => exact (Kd.own_of_R (by (with_reducible repeat (first | apply Kd.R_alloc | apply Kd.R_drewN | apply Kd.R_drew)); exact HO106.out))); (case aS => exact (below_size (by repeat (first | (with_reducible first | exact HB.out | apply below_alloc | apply pw_below_drewN | apply below_drew1) | exact HB.out)))); (case aL => have := LMc7.out; omega); intro v108 w13 ho0 hb hg; have ho := Kd.R_of_own (h1 := fun _ => rfl) (ok := fun _ => True) ho0 (fun _ _ => trivial); clear ho0; have hat := True.intro; rw [← Ny107.out] at ho; change Kd.R (Kd.int .u8) 5 w13 w.heap.size (fun _ => True) v108 y107 at ho; have n0_ := Aside0.mk (hb); have n1_ := Aside0.mk (ho); clear HB; clear HO106; have HB := n0_; have HO109 := n1_; clear n0_ n1_; clear ho hb hg hat) | (at_builtin; refine Kd.R_append_zeros (Kd.int .u8) (w0 := w) w.heap.size rfl (.tmp 20) (.tmp 23) 22 3 5 (.int .u8 0) 1 rfl Try.underlying22 Try.underlying3 info5 rfl (by decide) (by omega) v108 y107 0 (ji8 : Int) (fun _ => True) rfl rfl rfl ?aF ?aO (of_decide_eq_true (by first | (with_reducible assumption) | assumption)) ?aB ?aS ?aL ?_; (case aB => exact (by repeat (first | (with_reducible first | exact HB.out | apply below_alloc | apply pw_below_drewN | apply below_drew1) | exact HB.out))); (case aF => exact (fun _ _ => trivial)); (case aO => exact (by (with_reducible repeat (first | apply Kd.R_alloc | apply Kd.R_drewN | apply Kd.R_drew)); exact HO109.out)); (case aS => exact (below_size (by repeat (first | (with_reducible first | exact HB.out | apply below_alloc | apply pw_below_drewN | apply below_drew1) | exact HB.out)))); (case aL => have := LMc10.out; omega); intro v111 w14 ho hb hg hat; rw [← Ny110.out] at ho; have n0_ := Aside0.mk (hb); have n1_ := Aside0.mk (ho); clear HB; clear HO109; have HB := n0_; have HO112 := n1_; clear n0_ n1_; clear ho hb hg hat))
            go_ret
            exact ⟨_, by first | rfl | (simp [errW_none, errW_some] <;> rfl) | (simp only [← hji8]; first | rfl | (simp [errW_none, errW_some] <;> rfl)) | (simp [*, errW_none, errW_some] <;> rfl), by (with_reducible repeat (first | apply Kd.R_alloc | apply Kd.R_drewN | apply Kd.R_drew)); exact HO112.out, by repeat (first | (with_reducible first | exact HB.out | apply below_alloc | apply pw_below_drewN | apply below_drew1) | exact HB.out)⟩
          · rw [if_neg c10] at H
            exact absurd H (by simp)
        · rw [if_neg c9] at H
          exact absurd H (by simp)
      · rw [if_neg c7] at H
        exact absurd H (by simp)
    · rw [if_neg c6] at H
      exact absurd H (by simp)

/-! ### merkhetlaw02_fixed: function 19 -/
def merkhetlaw02_fixed.f  : Option (Bool) := (pack_Put.f ([] : List Int) 513 2).bind fun t113 => (if (strOfNums t113).toList = ([1, 2] : List UInt8) then ((pack_PutText.f ([] : List Int) (⟨#[97, 98]⟩ : ByteArray)).bind fun t116 => (some ((strOfNums t116).toList == ([2, 97, 98, 0, 0, 0, 0, 0, 0, 0, 0, 0, 0, 0, 0, 0, 0] : List UInt8)))) else (some false))
set_option maxHeartbeats 8000000 in
set_option maxRecDepth 100000 in
theorem merkhetlaw02_fixed.calls  (r : Bool) (w : World) (h : merkhetlaw02_fixed.f  = some r) :
    Calls Try.prog 19 #[] w fun e w' => e = .returned (.bool r) ∧ Below w.heap.size w w' := by
  have HB := Aside0.mk (Below.refl w.heap.size w)
  have H : ((pack_Put.f ([] : List Int) 513 2).bind fun t113 => (if (strOfNums t113).toList = ([1, 2] : List UInt8) then ((pack_PutText.f ([] : List Int) (⟨#[97, 98]⟩ : ByteArray)).bind fun t116 => (some ((strOfNums t116).toList == ([2, 97, 98, 0, 0, 0, 0, 0, 0, 0, 0, 0, 0, 0, 0, 0, 0] : List UInt8)))) else (some false))) = some r := h
  clear h
  replace H := Option.bind_eq_some_iff.mp H
  obtain ⟨t113, A10, H⟩ := H
  replace H : (if (strOfNums t113).toList = ([1, 2] : List UInt8) then ((pack_PutText.f ([] : List Int) (⟨#[97, 98]⟩ : ByteArray)).bind fun t116 => (some ((strOfNums t116).toList == ([2, 97, 98, 0, 0, 0, 0, 0, 0, 0, 0, 0, 0, 0, 0, 0, 0] : List UInt8)))) else (some false)) = some r := H
  have A1 := Aside0.mk A10
  clear A10
  by_cases c2 : (strOfNums t113).toList = ([1, 2] : List UInt8)
  · rw [if_pos c2] at H
    have c2b0 : ((strOfNums t113).toList == ([1, 2] : List UInt8)) = true := beq_iff_eq.mpr c2
    have c2b1 : ((strOfNums t113).toList != ([1, 2] : List UInt8)) = false := bne_eq_false_iff_eq.mpr c2
    clear c2
    replace H := Option.bind_eq_some_iff.mp H
    obtain ⟨t116, A30, H⟩ := H
    replace H : (some ((strOfNums t116).toList == ([2, 97, 98, 0, 0, 0, 0, 0, 0, 0, 0, 0, 0, 0, 0, 0, 0] : List UInt8))) = some r := H
    have A3 := Aside0.mk A30
    clear A30
    obtain rfl := Option.some.inj H
    go_enter Try.func19, Try.ntmps19
    go_wp2_with (first | ((with_reducible refine gate_callee (f := 20) rfl ?_); refine goesL_ (some 1) rfl rfl Try.func20 (by kernel_rfl) rfl #[.slice none 0 0, .int .u64 513, .int .i64 2] rfl (by (try simp only [List.map_toArray, List.map_cons, List.map_nil]); first | done | rfl | (simp only [List.length_drop, List.length_take]; rfl)) ?_; (refine (pack_Put.calls _ _ ([] : List Int) 513 2 t113 _ ?side1 ?side2 A1.out).mono ?_); (case side1 => exact Kd.C_nil _ _); (case side2 => exact Nat.le_refl _); rintro e w4 ⟨v114, rfl, ho0, hb⟩; refine ⟨_, rfl, ?_⟩; have n0_ := Aside0.mk (Kd.R_lower ho0 (below_size (by repeat (first | (with_reducible first | exact HB.out | apply below_alloc | apply pw_below_drewN | apply below_drew1) | exact HB.out)))); have n1_ := Aside0.mk (below_step (by repeat (first | (with_reducible first | exact HB.out | apply below_alloc | apply pw_below_drewN | apply below_drew1) | exact HB.out)) hb); clear HB; have HO115 := n0_; have HB := n1_; clear n0_ n1_; (try clear hb); (try clear hb2); (try clear hk); (try clear hi); (try clear ho0); have hcv5 := own_string (P := Try.prog) Try.underlying22 Try.underlying5 Try.underlying9 (Kd.own_of_R HO115.out)) | (go_at_call 25; (refine (pack_PutText.calls _ _ ([] : List Int) (⟨#[97, 98]⟩ : ByteArray) t116 _ ?side1 ?side2 A3.out).mono ?_); (case side1 => exact Kd.C_nil _ _); (case side2 => exact Nat.le_refl _); rintro e w6 ⟨v117, rfl, ho0, hb⟩; have n0_ := Aside0.mk (Kd.R_elder' (by (with_reducible repeat (first | apply Kd.R_alloc | apply Kd.R_drewN | apply Kd.R_drew)); exact HO115.out) (Kd.R_base ho0) hb); have n1_ := Aside0.mk (Kd.R_lower (Kd.R_new' ho0 (Kd.R_lt (by (with_reducible repeat (first | apply Kd.R_alloc | apply Kd.R_drewN | apply Kd.R_drew)); exact HO115.out))) (below_size (by repeat (first | (with_reducible first | exact HB.out | apply below_alloc | apply pw_below_drewN | apply below_drew1) | exact HB.out)))); have n2_ := Aside0.mk (below_step (by repeat (first | (with_reducible first | exact HB.out | apply below_alloc | apply pw_below_drewN | apply below_drew1) | exact HB.out)) hb); clear HO115; clear HB; have HO115 := n0_; have HO118 := n1_; have HB := n2_; clear n0_ n1_ n2_; (try clear hb); (try clear hb2); (try clear hk); (try clear hi); (try clear ho0); have hcv7 := own_string (P := Try.prog) Try.underlying22 Try.underlying5 Try.underlying9 (Kd.own_of_R HO118.out)))
    go_ret
    exact ⟨by first | rfl | (simp [errW_none, errW_some] <;> rfl) | (simp [*, errW_none, errW_some] <;> rfl), by repeat (first | (with_reducible first | exact HB.out | apply below_alloc | apply pw_below_drewN | apply below_drew1) | exact HB.out)⟩
  · rw [if_neg c2] at H
    have c2b0 : ((strOfNums t113).toList == ([1, 2] : List UInt8)) = false := beq_eq_false_iff_ne.mpr c2
    have c2b1 : ((strOfNums t113).toList != ([1, 2] : List UInt8)) = true := bne_iff_ne.mpr c2
    obtain rfl := Option.some.inj H
    go_enter Try.func19, Try.ntmps19
    go_wp2_with (first | ((with_reducible refine gate_callee (f := 20) rfl ?_); refine goesL_ (some 1) rfl rfl Try.func20 (by kernel_rfl) rfl #[.slice none 0 0, .int .u64 513, .int .i64 2] rfl (by (try simp only [List.map_toArray, List.map_cons, List.map_nil]); first | done | rfl | (simp only [List.length_drop, List.length_take]; rfl)) ?_; (refine (pack_Put.calls _ _ ([] : List Int) 513 2 t113 _ ?side1 ?side2 A1.out).mono ?_); (case side1 => exact Kd.C_nil _ _); (case side2 => exact Nat.le_refl _); rintro e w8 ⟨v114, rfl, ho0, hb⟩; refine ⟨_, rfl, ?_⟩; have n0_ := Aside0.mk (Kd.R_lower ho0 (below_size (by repeat (first | (with_reducible first | exact HB.out | apply below_alloc | apply pw_below_drewN | apply below_drew1) | exact HB.out)))); have n1_ := Aside0.mk (below_step (by repeat (first | (with_reducible first | exact HB.out | apply below_alloc | apply pw_below_drewN | apply below_drew1) | exact HB.out)) hb); clear HB; have HO115 := n0_; have HB := n1_; clear n0_ n1_; (try clear hb); (try clear hb2); (try clear hk); (try clear hi); (try clear ho0); have hcv9 := own_string (P := Try.prog) Try.underlying22 Try.underlying5 Try.underlying9 (Kd.own_of_R HO115.out)))
    go_ret
    exact ⟨by first | rfl | (simp [errW_none, errW_some] <;> rfl) | (simp [*, errW_none, errW_some] <;> rfl), by repeat (first | (with_reducible first | exact HB.out | apply below_alloc | apply pw_below_drewN | apply below_drew1) | exact HB.out)⟩

/-! ### pack_there: function 40 -/
def pack_there.f (l0 : List Int) (a1 : Int) (a2 : Int) : Option (Bool) := if a1 ≥ 0 then (if a1 ≤ (l0.length : Int) then (some (decide ((wrap64 ((l0.length : Int) - a1)) ≥ a2))) else (some false)) else (some false)
set_option maxHeartbeats 8000000 in
set_option maxRecDepth 100000 in
theorem pack_there.calls (A0 : Option Addr) (c0 : Nat) (l0 : List Int) (a1 : Int) (a2 : Int) (r : Bool) (w : World) (hr0 : Kd.C (Kd.int .u8) w A0 l0.length l0) (hc0 : l0.length ≤ c0) (h : pack_there.f l0 a1 a2 = some r) :
    Calls Try.prog 40 #[.slice A0 l0.length c0, .int .i64 a1, .int .i64 a2] w fun e w' => e = .returned (.bool r) ∧ Drawn0 w w' := by
  have HR0 := Aside0.mk hr0
  have HC0 := Aside0.mk hc0
  clear hr0 hc0
  have H : (if a1 ≥ 0 then (if a1 ≤ (l0.length : Int) then (some (decide ((wrap64 ((l0.length : Int) - a1)) ≥ a2))) else (some false)) else (some false)) = some r := h
  clear h
  by_cases c4 : a1 ≥ 0
  · rw [if_pos c4] at H
    have c4b0 : decide (0 ≤ a1) = true := decide_eq_true c4
    clear c4
    by_cases c5 : a1 ≤ (l0.length : Int)
    · rw [if_pos c5] at H
      have c5b0 : decide (a1 ≤ (l0.length : Int)) = true := decide_eq_true c5
      clear c5
      obtain rfl := Option.some.inj H
      go_enter Try.func40, Try.ntmps40
      go_wp2
      go_ret
      exact ⟨by first | rfl | (simp; done) | (simp [*]; done), by repeat (first | exact Drawn0.refl _ | apply Drawn0.step)⟩
    · rw [if_neg c5] at H
      have c5b0 : decide (a1 ≤ (l0.length : Int)) = false := decide_eq_false c5
      clear c5
      obtain rfl := Option.some.inj H
      go_enter Try.func40, Try.ntmps40
      go_wp2
      go_ret
      exact ⟨by first | rfl | (simp; done) | (simp [*]; done), by repeat (first | exact Drawn0.refl _ | apply Drawn0.step)⟩
  · rw [if_neg c4] at H
    have c4b0 : decide (0 ≤ a1) = false := decide_eq_false c4
    clear c4
    obtain rfl := Option.some.inj H
    go_enter Try.func40, Try.ntmps40
    go_wp2
    go_ret
    exact ⟨by first | rfl | (simp; done) | (simp [*]; done), by repeat (first | exact Drawn0.refl _ | apply Drawn0.step)⟩

/-! ### pack_Get: function 21 -/
def pack_Get.l0 : Nat → List Int → Int → Int → Int → Option (Int × Bool)
  | 0, _, _, _, _ => none
  | k + 1, x0, x1, x9, x10 => if x10 ≥ 0 then (if 0 ≤ (wrap64 (x1 + x10)) then (if (wrap64 (x1 + x10)) < (x0.length : Int) then (pack_Get.l0 k x0 x1 (Go.bits .or .u64 (IntKind.u64.wrap (x9 * 256)) (IntKind.u64.wrap (rd x0 (wrap64 (x1 + x10))))) (wrap64 (x10 - 1))) else (none)) else (none)) else (some (x9, true))
def pack_Get.f (k : Nat) (l0 : List Int) (a1 : Int) (a2 : Int) : Option (Int × Bool) := (pack_count.f a2).bind fun t119 => ((pack_there.f l0 a1 t119).bind fun t120 => (if t120 = true then (pack_Get.l0 k l0 a1 0 (wrap64 (t119 - 1))) else (some (0, false))))
theorem pack_Get.mono_l : ∀ k, (∀ y0 y1 y2 y3, LeO (pack_Get.l0 k y0 y1 y2 y3) (pack_Get.l0 (k + 1) y0 y1 y2 y3))
  | 0 => fun _ _ _ _ r h => by simp [pack_Get.l0] at h
  | k + 1 => by
    have ih0 := pack_Get.mono_l k
    · intro y0 y1 y2 y3
      unfold pack_Get.l0
      repeat' first
      | (with_reducible exact ih0 _ _ _ _)
      | (with_reducible exact LeO.refl _)
      | (with_reducible exact LeO.none _)
      | (with_reducible refine LeO.ite ?_ ?_)
      | (with_reducible refine LeO.bind ?_ (fun _ => ?_))
      | exact ih0 _ _ _ _
      | exact LeO.none _
      | refine LeO.ite ?_ ?_
      | refine LeO.bind ?_ (fun _ => ?_)
theorem pack_Get.mono : ∀ a0 a1 a2 k, LeO (pack_Get.f k a0 a1 a2) (pack_Get.f (k + 1) a0 a1 a2) := by
  intro a0 a1 a2 k
  have ih0 := pack_Get.mono_l k
  unfold pack_Get.f
  repeat' first
      | (with_reducible exact ih0 _ _ _ _)
      | (with_reducible exact LeO.refl _)
      | (with_reducible exact LeO.none _)
      | (with_reducible refine LeO.ite ?_ ?_)
      | (with_reducible refine LeO.bind ?_ (fun _ => ?_))
      | exact ih0 _ _ _ _
      | exact LeO.none _
      | refine LeO.ite ?_ ?_
      | refine LeO.bind ?_ (fun _ => ?_)
set_option maxHeartbeats 8000000 in
set_option maxRecDepth 100000 in
theorem pack_Get.calls (k : Nat) (A0 : Option Addr) (c0 : Nat) (l0 : List Int) (a1 : Int) (a2 : Int) (r1 : Int) (r2 : Bool) (w : World) (hr0 : Kd.C (Kd.int .u8) w A0 l0.length l0) (hc0 : l0.length ≤ c0) (h : pack_Get.f k l0 a1 a2 = some (r1, r2)) :
    Calls Try.prog 21 #[.slice A0 l0.length c0, .int .i64 a1, .int .i64 a2] w fun e w' => e = .returned (.tuple #[.int .u64 r1, .bool r2]) ∧ Below w.heap.size w w' := by
  have HR0 := Aside0.mk hr0
  have HC0 := Aside0.mk hc0
  clear hr0 hc0
  have HB := Aside0.mk (Below.refl w.heap.size w)
  have H : ((pack_count.f a2).bind fun t119 => ((pack_there.f l0 a1 t119).bind fun t120 => (if t120 = true then (pack_Get.l0 k l0 a1 0 (wrap64 (t119 - 1))) else (some (0, false))))) = some (r1, r2) := h
  clear h
  replace H := Option.bind_eq_some_iff.mp H
  obtain ⟨t119, A40, H⟩ := H
  replace H : ((pack_there.f l0 a1 t119).bind fun t120 => (if t120 = true then (pack_Get.l0 k l0 a1 0 (wrap64 (t119 - 1))) else (some (0, false)))) = some (r1, r2) := H
  have A4 := Aside0.mk A40
  clear A40
  replace H := Option.bind_eq_some_iff.mp H
  obtain ⟨t120, A50, H⟩ := H
  replace H : (if t120 = true then (pack_Get.l0 k l0 a1 0 (wrap64 (t119 - 1))) else (some (0, false))) = some (r1, r2) := H
  have A5 := Aside0.mk A50
  clear A50
  by_cases c6 : t120 = true
  · subst c6
    have H1 : (pack_Get.l0 k l0 a1 0 (wrap64 (t119 - 1))) = some (r1, r2) := by rw [if_pos rfl] at H; exact H
    clear H
    have H := H1
    clear H1
    have H' := Aside0.mk H
    clear H
    go_enter Try.func21, Try.ntmps21
    go_wp2_with (first | ((with_reducible refine gate_callee (f := 39) rfl ?_); refine goesL_ (some 12) rfl rfl Try.func39 (by kernel_rfl) rfl #[.int .i64 a2] rfl (by (try simp only [List.map_toArray, List.map_cons, List.map_nil]); first | done | rfl | (simp only [List.length_drop, List.length_take]; rfl) | (rw [H.u64_id _ (by simp only [decide_eq_false_iff_not, decide_eq_true_eq, Nat.not_lt, Int.not_lt] at *; omega) (by simp only [decide_eq_false_iff_not, decide_eq_true_eq, Nat.not_lt, Int.not_lt] at *; omega)]; rfl)) ?_; (with_reducible refine (pack_count.calls a2 t119 _ A4.out).mono ?_); rintro e w7 ⟨rfl, hb⟩; refine ⟨_, rfl, ?_⟩; have n0_ := Aside0.mk (below_step (by repeat (first | (with_reducible first | exact HB.out | apply below_alloc | apply pw_below_drewN | apply below_drew1) | exact HB.out)) hb); clear HB; have HB := n0_; clear n0_; (try clear hb); (try clear hb2); (try clear hk); (try clear hi)) | ((with_reducible refine gate_callee (f := 40) rfl ?_); refine goesL_ (some 16) rfl rfl Try.func40 (by kernel_rfl) rfl #[.slice A0 l0.length c0, .int .i64 a1, .int .i64 t119] rfl (by (try simp only [List.map_toArray, List.map_cons, List.map_nil]); first | done | rfl | (simp only [List.length_drop, List.length_take]; rfl) | (rw [H.u64_id _ (by simp only [decide_eq_false_iff_not, decide_eq_true_eq, Nat.not_lt, Int.not_lt] at *; omega) (by simp only [decide_eq_false_iff_not, decide_eq_true_eq, Nat.not_lt, Int.not_lt] at *; omega)]; rfl)) ?_; (with_reducible refine (pack_there.calls _ _ l0 a1 t119 true _ ?side1 ?side2 A5.out).mono ?_); (case side1 => repeat (first | exact (Kd.C_below HR0.out HB.out) | (with_reducible refine Kd.C_alloc ?_ _) | (with_reducible refine Kd.C_drewN ?_ _) | (with_reducible refine Kd.C_drew ?_))); (case side2 => exact HC0.out); rintro e w' ⟨rfl, ⟨nd, rfl⟩⟩; refine ⟨_, rfl, ?_⟩))
    go_loopg [9, 10] k (fun kq v9 v10 w' => ∃ (x9_1 : Int) (x10_1 : Int), v9 = .int .u64 x9_1 ∧ v10 = .int .i64 x10_1 ∧ Aside0 (pack_Get.l0 kq l0 a1 x9_1 x10_1 = some (r1, r2)) ∧ Aside0 (kq ≤ k) ∧ Aside0 (Below w.heap.size w w'))
    case atStart => exact ⟨(0), (wrap64 (t119 - 1)), (by first | rfl | (simp; done) | (simp [*]; done)), (by first | rfl | (simp; done) | (simp [*]; done)), H', ⟨Nat.le_refl _⟩, ⟨by repeat (first | (with_reducible first | exact HB.out | apply below_alloc | apply pw_below_drewN | apply below_drew1) | exact HB.out)⟩⟩
    case round =>
      clear H'
      try clear c2
      try clear p2
      try clear c3
      try clear c4
      try clear c6
      try clear p6
      obtain ⟨x9_1, x10_1, rfl, rfl, HA, HK1, HB⟩ := hrel
      cases gk with
      | zero => exact absurd HA.out (by simp [pack_Get.l0])
      | succ k1 =>
        have H := HA.out
        clear HA
        simp only [pack_Get.l0] at H
        by_cases c8 : x10_1 ≥ 0
        · rw [if_pos c8] at H
          have c8b0 : decide (0 ≤ x10_1) = true := decide_eq_true c8
          clear c8
          obtain ⟨ji9, hji9⟩ : ∃ j_ : Int, (wrap64 (a1 + x10_1)) = j_ := ⟨_, rfl⟩
          replace H : (if 0 ≤ (ji9) then (if (ji9) < (l0.length : Int) then (pack_Get.l0 k1 l0 a1 (Go.bits .or .u64 (IntKind.u64.wrap (x9_1 * 256)) (IntKind.u64.wrap (rd l0 (ji9)))) (wrap64 (x10_1 - 1))) else (none)) else (none)) = some (r1, r2) := by first | (rw [hji9] at H; exact H) | (simp only [hji9] at H ⊢; exact H)
          have hji9w : (IntKind.i64.wrap (a1 + x10_1)) = ji9 := (i64_w _).trans hji9
          by_cases c10 : 0 ≤ (ji9)
          · rw [if_pos c10] at H
            have c10b0 : decide (0 ≤ (ji9)) = true := decide_eq_true c10
            clear c10
            by_cases c11 : (ji9) < (l0.length : Int)
            · rw [if_pos c11] at H
              have c11b0 : decide ((ji9) < (l0.length : Int)) = true := decide_eq_true c11
              clear c11
              have H' := Aside0.mk H
              clear H
              have p121 : 0 ≤ ((ji9) : Int) := of_decide_eq_true (by first | (with_reducible assumption) | assumption)
              have q121 : (ji9) < (l0.length : Int) := of_decide_eq_true (by first | (with_reducible assumption) | assumption)
              obtain ⟨ad121, e121, hx121_0⟩ := Kd.at_int HR0.out (ji9) p121 q121
              cases e121
              replace hx121_0 := (HB.out.cell (World.block_lt_of_cell? w _ hx121_0)).trans hx121_0
              replace p121 := eq_true p121
              replace q121 := eq_true q121
              go_wp2
              go_roundg k1
              case measure => have := HK1.out; omega
              case rel => exact ⟨(Go.bits .or .u64 (IntKind.u64.wrap (x9_1 * 256)) (IntKind.u64.wrap (rd l0 (ji9)))), (wrap64 (x10_1 - 1)), (by first | rfl | (simp; done) | (simp only [← hji9] <;> (first | rfl | simp)) | (simp [*]; done)), (by first | rfl | (simp; done) | (simp [*]; done)), H', ⟨by have := HK1.out; omega⟩, ⟨by repeat (first | (with_reducible first | exact HB.out | apply below_alloc | apply pw_below_drewN | apply below_drew1) | exact HB.out)⟩⟩
            · rw [if_neg c11] at H
              exact absurd H (by simp)
          · rw [if_neg c10] at H
            exact absurd H (by simp)
        · rw [if_neg c8] at H
          have c8b0 : decide (0 ≤ x10_1) = false := decide_eq_false c8
          clear c8
          simp only [Option.some.injEq, Prod.mk.injEq] at H
          obtain ⟨rfl, rfl⟩ := H
          go_wp2
          go_ret2
          exact ⟨by first | rfl | (simp [errW_none, errW_some] <;> rfl) | (simp [*, errW_none, errW_some] <;> rfl), by repeat (first | (with_reducible first | exact HB.out | apply below_alloc | apply pw_below_drewN | apply below_drew1) | exact HB.out)⟩
  · replace c6 := Bool.eq_false_iff.mpr c6
    subst c6
    have H1 : (some (0, false)) = some (r1, r2) := by rw [if_neg (show ¬ (false = true) by decide)] at H; exact H
    clear H
    have H := H1
    clear H1
    simp only [Option.some.injEq, Prod.mk.injEq] at H
    obtain ⟨rfl, rfl⟩ := H
    go_enter Try.func21, Try.ntmps21
    go_wp2_with (first | ((with_reducible refine gate_callee (f := 39) rfl ?_); refine goesL_ (some 12) rfl rfl Try.func39 (by kernel_rfl) rfl #[.int .i64 a2] rfl (by (try simp only [List.map_toArray, List.map_cons, List.map_nil]); first | done | rfl | (simp only [List.length_drop, List.length_take]; rfl) | (rw [H.u64_id _ (by simp only [decide_eq_false_iff_not, decide_eq_true_eq, Nat.not_lt, Int.not_lt] at *; omega) (by simp only [decide_eq_false_iff_not, decide_eq_true_eq, Nat.not_lt, Int.not_lt] at *; omega)]; rfl)) ?_; (with_reducible refine (pack_count.calls a2 t119 _ A4.out).mono ?_); rintro e w12 ⟨rfl, hb⟩; refine ⟨_, rfl, ?_⟩; have n0_ := Aside0.mk (below_step (by repeat (first | (with_reducible first | exact HB.out | apply below_alloc | apply pw_below_drewN | apply below_drew1) | exact HB.out)) hb); clear HB; have HB := n0_; clear n0_; (try clear hb); (try clear hb2); (try clear hk); (try clear hi)) | ((with_reducible refine gate_callee (f := 40) rfl ?_); refine goesL_ (some 16) rfl rfl Try.func40 (by kernel_rfl) rfl #[.slice A0 l0.length c0, .int .i64 a1, .int .i64 t119] rfl (by (try simp only [List.map_toArray, List.map_cons, List.map_nil]); first | done | rfl | (simp only [List.length_drop, List.length_take]; rfl) | (rw [H.u64_id _ (by simp only [decide_eq_false_iff_not, decide_eq_true_eq, Nat.not_lt, Int.not_lt] at *; omega) (by simp only [decide_eq_false_iff_not, decide_eq_true_eq, Nat.not_lt, Int.not_lt] at *; omega)]; rfl)) ?_; (with_reducible refine (pack_there.calls _ _ l0 a1 t119 false _ ?side1 ?side2 A5.out).mono ?_); (case side1 => repeat (first | exact (Kd.C_below HR0.out HB.out) | (with_reducible refine Kd.C_alloc ?_ _) | (with_reducible refine Kd.C_drewN ?_ _) | (with_reducible refine Kd.C_drew ?_))); (case side2 => exact HC0.out); rintro e w' ⟨rfl, ⟨nd, rfl⟩⟩; refine ⟨_, rfl, ?_⟩))
    go_ret2
    exact ⟨by first | rfl | (simp [errW_none, errW_some] <;> rfl) | (simp [*, errW_none, errW_some] <;> rfl), by repeat (first | (with_reducible first | exact HB.out | apply below_alloc | apply pw_below_drewN | apply below_drew1) | exact HB.out)⟩

/-! ### merkhetlaw02_PackParts: function 8 -/
/-- How many bytes the i-th number takes. -/
def partSize (S : List Int) (i : Int) : Int := if i < (S.length : Int) then 1 + (rd S i).tmod 8 else 8
theorem tmod8 (x : Int) : -8 < x.tmod 8 ∧ x.tmod 8 < 8 := ⟨by have := Int.lt_tmod_of_pos x (show (0 : Int) < 8 by decide); omega, Int.tmod_lt_of_pos x (by decide)⟩
theorem wrap_small (y : Int) (h0 : -8 < y) (h1 : y < 8) : wrap64 (1 + wrap64 y) = 1 + y := by unfold wrap64; omega
/-- The numbers' bytes, one behind the other. -/
def partPuts (S : List Int) : List Int → Int → List Int → Option (List Int)
  | [], _, b => some b
  | n :: t, i, b => if 1 ≤ partSize S i ∧ partSize S i ≤ 8 then (pack_Put.f b n (partSize S i)).bind fun b' => partPuts S t (i + 1) b' else none
/-- Is the number that was read not the number that was laid? -/
def partBad (n k : Int) (x : Int × Bool) : Bool := !x.2 || (if k < 8 then x.1 != Go.bits .and .u64 n (256 ^ k.toNat - 1) else x.1 != n)
/-- The numbers read again, one behind the other: where the last one ends. -/
def partGets (K : Nat) (b S : List Int) : List Int → Int → Int → Option (Option Int)
  | [], _, at_ => some (some at_)
  | n :: t, i, at_ => if 1 ≤ partSize S i ∧ partSize S i ≤ 8 then (pack_Get.f K b at_ (partSize S i)).bind fun x => if partBad n (partSize S i) x = true then some none else partGets K b S t (i + 1) (wrap64 (at_ + partSize S i)) else none
def merkhetlaw02_PackParts.f (K : Nat) (l0 l1 : List Int) : Option Bool :=
  if l0.length > 40 ∨ l1.length > 40 then merkhetlaw02_fixed.f
  else (partPuts l1 l0 0 []).bind fun b => (partGets K b l1 l0 0 0).bind fun x => match x with
    | none => some false
    | some at_ => merkhetlaw02_fixed.f.bind fun y => some (y && decide (at_ = (b.length : Int)))
theorem partGets_mono (K : Nat) (b S : List Int) : ∀ (l : List Int) (i at_ : Int) (r : Option Int), partGets K b S l i at_ = some r → partGets (K + 1) b S l i at_ = some r := by
  intro l
  induction l with
  | nil => intro i at_ r h; exact h
  | cons n t ih =>
    intro i at_ r h
    unfold partGets at h ⊢
    by_cases c0 : 1 ≤ partSize S i ∧ partSize S i ≤ 8
    case neg => rw [if_neg c0] at h; exact absurd h (by simp)
    rw [if_pos c0] at h ⊢
    obtain ⟨x, hx, h⟩ := Option.bind_eq_some_iff.mp h
    rw [pack_Get.mono b at_ (partSize S i) K x hx, Option.bind_some]
    by_cases c : partBad n (partSize S i) x = true
    · rw [if_pos c] at h ⊢; exact h
    · rw [if_neg c] at h ⊢; exact ih _ _ _ h
theorem merkhetlaw02_PackParts.mono : ∀ a0 a1 k, LeO (merkhetlaw02_PackParts.f k a0 a1) (merkhetlaw02_PackParts.f (k + 1) a0 a1) := by
  intro l0 l1 k r h
  unfold merkhetlaw02_PackParts.f at h ⊢
  by_cases c : l0.length > 40 ∨ l1.length > 40
  · rw [if_pos c] at h ⊢; exact h
  · rw [if_neg c] at h ⊢
    obtain ⟨b, hb, h⟩ := Option.bind_eq_some_iff.mp h
    rw [hb, Option.bind_some]
    obtain ⟨x, hx, h⟩ := Option.bind_eq_some_iff.mp h
    rw [partGets_mono k b l1 l0 0 0 x hx, Option.bind_some]
    exact h
set_option maxHeartbeats 8000000 in
set_option maxRecDepth 100000 in
theorem partSize_calls (A1 : Option Addr) (c1 : Nat) (l1 : List Int) (a : Int) (B : Nat) (w : World) (hr : Kd.C (Kd.int .u8) w A1 l1.length l1) (hcell : w.cell? ⟨B, 0, none⟩ = some (.slice A1 l1.length c1)) (h0 : 0 ≤ a) :
    Calls Try.prog 24 #[.int .i64 a, .pointer (some ⟨B, 0, none⟩)] w fun e w' => e = .returned (.int .i64 (partSize l1 a)) ∧ Below w.heap.size w w' := by
  have HR := Aside0.mk hr
  have HB := Aside0.mk (Below.refl w.heap.size w)
  have hmax : l1.length ≤ 9223372036854775807 := Kd.C_max hr
  clear hr
  by_cases hlt : a < (l1.length : Int)
  · have HS := Aside0.mk (show partSize l1 a = 1 + (rd l1 a).tmod 8 by unfold partSize; rw [if_pos hlt])
    obtain ⟨ad, e, hx⟩ := Kd.at_int HR.out a h0 hlt
    cases e
    obtain ⟨x, hxd⟩ : ∃ x, rd l1 a = x := ⟨_, rfl⟩
    rw [hxd] at hx HS
    clear hxd
    have HX := Aside0.mk (tmod8 x)
    go_enter Try.func24, Try.ntmps24
    go_wp2
    go_ret
    exact ⟨by rw [HS.out]; simp [wrap_small _ HX.out.1 HX.out.2], HB.out⟩
  · have HS := Aside0.mk (show partSize l1 a = 8 by unfold partSize; rw [if_neg hlt])
    go_enter Try.func24, Try.ntmps24
    go_wp2
    go_ret
    exact ⟨by rw [HS.out]; simp, HB.out⟩
set_option maxHeartbeats 8000000 in
set_option maxRecDepth 100000 in
theorem merkhetlaw02_PackParts.calls (K : Nat) (A0 : Option Addr) (c0 : Nat) (l0 : List Int) (A1 : Option Addr) (c1 : Nat) (l1 : List Int) (r : Bool) (w : World) (hr0 : Kd.C (Kd.int .u64) w A0 l0.length l0) (hc0 : l0.length ≤ c0) (hr1 : Kd.C (Kd.int .u8) w A1 l1.length l1) (hc1 : l1.length ≤ c1) (h : merkhetlaw02_PackParts.f K l0 l1 = some r) :
    Calls Try.prog 8 #[.slice A0 l0.length c0, .slice A1 l1.length c1] w fun e w' => e = .returned (.bool r) ∧ Below w.heap.size w w' := by
  have hmf : ∀ (fn : Fn) (first cap : Array Value) (w : World), (Instr.makeFunc fn first cap).run Try.prog w = .ok (.func fn first cap) w := fun _ _ _ _ => rfl
  have HR0 := Aside0.mk hr0
  have HR1 := Aside0.mk hr1
  have hmax0 : l0.length ≤ 9223372036854775807 := Kd.C_max hr0
  have hmax1 : l1.length ≤ 9223372036854775807 := Kd.C_max hr1
  have HL1 := Aside0.mk hc1
  clear hr0 hr1 hc0 hc1
  obtain ⟨wb, hwb⟩ : ∃ wb : World, wb = w.alloc (.cells #[.slice A1 l1.length c1] 22) := ⟨_, rfl⟩
  have hcell : (w.alloc (.cells #[.slice A1 l1.length c1] 22)).cell? ⟨w.heap.size, 0, none⟩ = some (.slice A1 l1.length c1) := by rw [World.cell?_alloc_at _ _ _ _ rfl]; rfl
  have HB := Aside0.mk ((Below.refl w.heap.size w).alloc (Nat.le_refl _) (.cells #[.slice A1 l1.length c1] 22))
  unfold merkhetlaw02_PackParts.f at h
  by_cases c : l0.length > 40 ∨ l1.length > 40
  · rw [if_pos c] at h
    have HF := Aside0.mk h
    clear h
    by_cases c1' : l0.length > 40
    · have c0z : (40 : Int) < (l0.length : Int) := by omega
      go_enter Try.func8, Try.ntmps8
      go_wp2_with (go_at_call 19; refine (merkhetlaw02_fixed.calls r _ HF.out).mono ?_; rintro e w2 ⟨rfl, hb⟩)
      go_ret
      exact ⟨rfl, below_step HB.out hb⟩
    · have c0z : ¬ (40 : Int) < (l0.length : Int) := by omega
      have c1z : (40 : Int) < (l1.length : Int) := by omega
      go_enter Try.func8, Try.ntmps8
      go_wp2_with (go_at_call 19; refine (merkhetlaw02_fixed.calls r _ HF.out).mono ?_; rintro e w2 ⟨rfl, hb⟩)
      go_ret
      exact ⟨rfl, below_step HB.out hb⟩
  · rw [if_neg c] at h
    have HF := Aside0.mk h
    have c0z : ¬ (40 : Int) < (l0.length : Int) := by omega
    have c1z : ¬ (40 : Int) < (l1.length : Int) := by omega
    have c0n : l0.length ≤ 40 := by omega
    clear h c
    obtain ⟨bs, hbs, H⟩ := Option.bind_eq_some_iff.mp HF.out
    have HBS := Aside0.mk hbs
    have HG := Aside0.mk H
    clear hbs H HF
    go_enter Try.func8, Try.ntmps8
    go_wp2
    go_loopg [6, 7, 8, 27] l0.length (fun gg s6 _ _ s27 wr => ∃ (k : Nat) (acc : List Int), k ≤ l0.length ∧ l0.length - k ≤ gg ∧ s27 = .int .i64 k ∧ Aside0 (partPuts l1 (l0.drop k) k acc = some bs) ∧ Aside0 (Kd.R (Kd.int .u8) 5 wr w.heap.size (fun _ => True) s6 acc) ∧ Aside0 (wr.cell? ⟨w.heap.size, 0, none⟩ = some (.slice A1 l1.length c1)) ∧ Aside0 (Below w.heap.size w wr) ∧ Aside0 (w.heap.size < wr.heap.size))
    case atStart => exact ⟨0, [], Nat.zero_le _, by omega, rfl, HBS, ⟨Kd.R_nil _ _ _ _ _⟩, ⟨hcell⟩, HB, ⟨by simp⟩⟩
    case round =>
      obtain ⟨k, acc, hk, hg, rfl, HP, HO, HCELL, HBr, HLT⟩ := hrel
      obtain ⟨Ao, co, rfl⟩ := Kd.R_slice HO.out
      by_cases hlt : k < l0.length
      · have hltz : (k : Int) < (l0.length : Int) := by omega
        obtain ⟨ad, e, hx⟩ := Kd.at_int HR0.out (k : Int) (by omega) (by omega)
        cases e
        replace hx := (HBr.out.cell (World.block_lt_of_cell? w _ hx)).trans hx
        rw [Int.toNat_natCast] at hx
        have hp := HP.out
        rw [List.drop_eq_getElem_cons hlt] at hp
        unfold partPuts at hp
        have hy : rd l0 (k : Int) = l0[k] := by simp [rd, List.getD_eq_getElem?_getD, List.getElem?_eq_getElem hlt]
        rw [hy] at hx
        generalize l0[k] = y at hx hp
        by_cases c0 : 1 ≤ partSize l1 (k : Int) ∧ partSize l1 (k : Int) ≤ 8
        case neg => rw [if_neg c0] at hp; exact absurd hp (by simp)
        rw [if_pos c0] at hp
        obtain ⟨b', hb', hp⟩ := Option.bind_eq_some_iff.mp hp
        have HB' := Aside0.mk hb'
        have HP2 := Aside0.mk hp
        clear hy hp hb' c0
        go_wp2_with (first
          | (go_at_call 24; refine (partSize_calls A1 c1 l1 (k : Int) w.heap.size _ (Kd.C_below HR1.out HBr.out) HCELL.out (by omega)).mono ?_; rintro e w2 ⟨rfl, hb⟩; have HO2 := Aside0.mk (Kd.R_below HO.out hb); have HB2 := Aside0.mk (below_step HBr.out hb); have HCELL2 := Aside0.mk ((hb.cell HLT.out).trans HCELL.out); have HLT2 := Aside0.mk (Nat.lt_of_lt_of_le HLT.out (below_size hb)); clear hb)
          | (go_at_call 20; refine (pack_Put.calls _ _ acc y (partSize l1 (k : Int)) b' _ (Kd.R_reads' HO2.out).2.2 (Kd.R_reads' HO2.out).2.1 HB'.out).mono ?_; rintro e w3 ⟨v3, rfl, ho, hb⟩; have HO3 := Aside0.mk (Kd.R_lower ho (below_size HB2.out)); have HB3 := Aside0.mk (below_step HB2.out hb); have HCELL3 := Aside0.mk ((hb.cell HLT2.out).trans HCELL2.out); have HLT3 := Aside0.mk (Nat.lt_of_lt_of_le HLT2.out (below_size hb)); clear hb ho))
        go_roundg (l0.length - (k + 1))
        case measure => omega
        case rel => exact ⟨k + 1, b', by omega, by omega, by go_num, HP2, HO3, HCELL3, HB3, HLT3⟩
      · have hltz : ¬ (k : Int) < (l0.length : Int) := by omega
        obtain rfl : k = l0.length := by omega
        obtain rfl : acc = bs := by have hp := HP.out; rw [List.drop_length] at hp; exact Option.some.inj hp
        clear HP hg hk hlt
        obtain ⟨res, hres, H⟩ := Option.bind_eq_some_iff.mp HG.out
        have HRES := Aside0.mk hres
        have HFIN := Aside0.mk H
        clear hres H HG
        go_wp2
        go_loopg [9, 10, 11, 12, 13, 14, 41] l0.length (fun gg s9 _ _ _ _ _ s41 wr2 => ∃ (k : Nat) (at_ : Int), k ≤ l0.length ∧ l0.length - k ≤ gg ∧ s41 = .int .i64 k ∧ s9 = .int .i64 at_ ∧ Aside0 (partGets K acc l1 (l0.drop k) k at_ = some res) ∧ Aside0 (Kd.R (Kd.int .u8) 5 wr2 w.heap.size (fun _ => True) (.slice Ao acc.length co) acc) ∧ Aside0 (wr2.cell? ⟨w.heap.size, 0, none⟩ = some (.slice A1 l1.length c1)) ∧ Aside0 (Below w.heap.size w wr2) ∧ Aside0 (w.heap.size < wr2.heap.size))
        case atStart => exact ⟨0, 0, Nat.zero_le _, by omega, rfl, rfl, HRES, HO, HCELL, HBr, HLT⟩
        case round =>
          clear HO HCELL HBr HLT
          obtain ⟨k, at_, hk, hg, rfl, rfl, HP, HO, HCELL, HBr, HLT⟩ := hrel
          by_cases hlt : k < l0.length
          · have hltz : (k : Int) < (l0.length : Int) := by omega
            obtain ⟨ad, e, hx⟩ := Kd.at_int HR0.out (k : Int) (by omega) (by omega)
            cases e
            replace hx := (HBr.out.cell (World.block_lt_of_cell? w _ hx)).trans hx
            rw [Int.toNat_natCast] at hx
            have hp := HP.out
            rw [List.drop_eq_getElem_cons hlt] at hp
            unfold partGets at hp
            have hy : rd l0 (k : Int) = l0[k] := by simp [rd, List.getD_eq_getElem?_getD, List.getElem?_eq_getElem hlt]
            rw [hy] at hx
            generalize l0[k] = y at hx hp
            by_cases c0 : 1 ≤ partSize l1 (k : Int) ∧ partSize l1 (k : Int) ≤ 8
            case neg => rw [if_neg c0] at hp; exact absurd hp (by simp)
            rw [if_pos c0] at hp
            obtain ⟨⟨x, ok⟩, hb', hp⟩ := Option.bind_eq_some_iff.mp hp
            have HB' := Aside0.mk hb'
            have HP2 := Aside0.mk hp
            clear hy hp hb'
            have HSZ := fun w_ => partSize_calls A1 c1 l1 (k : Int) w.heap.size w_
            generalize hsz : partSize l1 (k : Int) = sz at *
            have hszc : sz = 1 ∨ sz = 2 ∨ sz = 3 ∨ sz = 4 ∨ sz = 5 ∨ sz = 6 ∨ sz = 7 ∨ sz = 8 := by omega
            clear c0
            rcases hszc with rfl | rfl | rfl | rfl | rfl | rfl | rfl | rfl
            all_goals cases ok with
              | false =>
                go_wp2_with (first
                  | (go_at_call 24; refine (HSZ _ (Kd.C_below HR1.out HBr.out) HCELL.out (by omega)).mono ?_; rintro e w2 ⟨rfl, hb⟩; have HO2 := Aside0.mk (Kd.R_below HO.out hb); have HB2 := Aside0.mk (below_step HBr.out hb); have HCELL2 := Aside0.mk ((hb.cell HLT.out).trans HCELL.out); have HLT2 := Aside0.mk (Nat.lt_of_lt_of_le HLT.out (below_size hb)); clear hb)
                  | (go_at_call 21; refine (pack_Get.calls K _ _ acc at_ _ x _ _ (Kd.R_reads' HO2.out).2.2 (Kd.R_reads' HO2.out).2.1 HB'.out).mono ?_; rintro e w3 ⟨rfl, hb⟩; have HO3 := Aside0.mk (Kd.R_below HO2.out hb); have HB3 := Aside0.mk (below_step HB2.out hb); have HCELL3 := Aside0.mk ((hb.cell HLT2.out).trans HCELL2.out); have HLT3 := Aside0.mk (Nat.lt_of_lt_of_le HLT2.out (below_size hb)); clear hb))
                go_ret
                have hbad := HP2.out
                rw [if_pos (by simp [partBad])] at hbad
                obtain rfl := Option.some.inj hbad
                exact ⟨by rw [← Option.some.inj HFIN.out]; rfl, HB3.out⟩
              | true =>
                go_wp2_with (first
                  | (go_at_call 24; refine (HSZ _ (Kd.C_below HR1.out HBr.out) HCELL.out (by omega)).mono ?_; rintro e w2 ⟨rfl, hb⟩; have HO2 := Aside0.mk (Kd.R_below HO.out hb); have HB2 := Aside0.mk (below_step HBr.out hb); have HCELL2 := Aside0.mk ((hb.cell HLT.out).trans HCELL.out); have HLT2 := Aside0.mk (Nat.lt_of_lt_of_le HLT.out (below_size hb)); clear hb)
                  | (go_at_call 21; refine (pack_Get.calls K _ _ acc at_ _ x _ _ (Kd.R_reads' HO2.out).2.2 (Kd.R_reads' HO2.out).2.1 HB'.out).mono ?_; rintro e w3 ⟨rfl, hb⟩; have HO3 := Aside0.mk (Kd.R_below HO2.out hb); have HB3 := Aside0.mk (below_step HB2.out hb); have HCELL3 := Aside0.mk ((hb.cell HLT2.out).trans HCELL2.out); have HLT3 := Aside0.mk (Nat.lt_of_lt_of_le HLT2.out (below_size hb)); clear hb))
                all_goals first
                  | (go_roundg (l0.length - (k + 1)); (case measure => omega); (case rel => have hgood := HP2.out; rw [if_neg (by simp [partBad, *])] at hgood; exact ⟨k + 1, _, by omega, by omega, by go_num, rfl, ⟨hgood⟩, HO3, HCELL3, HB3, HLT3⟩))
                  | (go_ret; have hbad := HP2.out; rw [if_pos (by simp [partBad, *])] at hbad; obtain rfl := Option.some.inj hbad; exact ⟨by rw [← Option.some.inj HFIN.out]; rfl, HB3.out⟩)
          · have hltz : ¬ (k : Int) < (l0.length : Int) := by omega
            obtain rfl : k = l0.length := by omega
            obtain rfl : some at_ = res := by have hp := HP.out; rw [List.drop_length] at hp; exact Option.some.inj hp
            obtain ⟨y, hy, hr⟩ := Option.bind_eq_some_iff.mp HFIN.out
            have HY := Aside0.mk hy
            obtain rfl := Option.some.inj hr
            clear hy hr HP hg hk hlt
            cases y with
            | true =>
              by_cases hal : at_ = (acc.length : Int)
              · go_wp2_with (go_at_call 19; refine (merkhetlaw02_fixed.calls _ _ HY.out).mono ?_; rintro e w3 ⟨rfl, hb⟩)
                go_ret
                exact ⟨by simp [hal], below_step HBr.out hb⟩
              · go_wp2_with (go_at_call 19; refine (merkhetlaw02_fixed.calls _ _ HY.out).mono ?_; rintro e w3 ⟨rfl, hb⟩)
                go_ret
                exact ⟨by simp [hal], below_step HBr.out hb⟩
            | false =>
              go_wp2_with (go_at_call 19; refine (merkhetlaw02_fixed.calls _ _ HY.out).mono ?_; rintro e w3 ⟨rfl, hb⟩)
              go_ret
              exact ⟨by simp, below_step HBr.out hb⟩

/-- THE ONE PURE STATEMENT of merkhetlaw02_PackParts. -/
def merkhetlaw02_PackParts.Pure : Prop := ∀ (l0 : List Int) (l1 : List Int), l0.length ≤ maxLen → l0.length * 8 ≤ 140737488351232 → (∀ x0_ ∈ l0, (Lit.int .u64 x0_).wf = true) → l1.length ≤ maxLen → l1.length * 1 ≤ 140737488351232 → (∀ x0_ ∈ l1, (Lit.int .u8 x0_).wf = true) → ∃ k, merkhetlaw02_PackParts.f k l0 l1 = some true


end Go.Proofs.Ytknigpdglbknhaa.Q
