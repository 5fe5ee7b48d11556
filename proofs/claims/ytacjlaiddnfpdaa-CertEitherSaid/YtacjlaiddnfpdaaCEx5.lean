-- WRITTEN FOR THIS CLAIM by wip/tools/mp.py, a program of this project that drives the kit's print; the functions that the print does not take are this project's own texts.
import Derived.Test.YtacjlaiddnfpdaaCEx0
import Derived.Test.YtacjlaiddnfpdaaCEx2
import Derived.Test.YtacjlaiddnfpdaaCEx4
namespace Go.Proofs.Ytacjlaiddnfpdaa.CE
open Go.RowKit Go.Proofs.YtacjlaiddnfpdaaW.PrintWords Go.Proofs.YtacjlaiddnfpdaaW.PrintLast Go.Proofs.YtacjlaiddnfpdaaW.PrintMore
attribute [local go_sem] max2_int min2_int max_two min_two max_three min_three max_four min_four   -- for this text's walks alone
set_option linter.unusedVariables false
set_option linter.unusedSimpArgs false

/-! ### slices_Repeat_int64_int64: function 53 -/
def slices_Repeat_int64_int64.f (l0 : List Int) (a1 : Int) : Option (List Int) := if l0.length = 1 then (if 0 ≤ a1 then (if a1 ≤ 1000000 then some (List.replicate a1.toNat (l0.getD 0 0)) else none) else none) else none
theorem slices_Repeat_int64_int64_mul (n : Nat) (h : n ≤ 1000000) : bits_Mul.f 1 (n : Int) = some (0, (n : Int)) := by
  have h1 : Go.bits .and .u64 ((1 : Nat) : Int) ((4294967295 : Nat) : Int) = ((1 : Nat) : Int) := by rw [Go.u64_and_nat 1 4294967295 (by decide) (by decide)]; rfl
  have h2 : Go.bits .and .u64 ((n : Nat) : Int) ((4294967295 : Nat) : Int) = ((n : Nat) : Int) := by
    rw [Go.u64_and_nat n 4294967295 (by omega) (by decide), show (4294967295 : Nat) = 2 ^ 32 - 1 by decide, Nat.and_two_pow_sub_one_eq_mod]
    omega
  have h3 : Go.bits .and .u64 ((0 : Nat) : Int) ((4294967295 : Nat) : Int) = ((0 : Nat) : Int) := by rw [Go.u64_and_nat 0 4294967295 (by decide) (by decide)]; rfl
  have wu : ∀ x : Int, IntKind.u64.wrap x = x % 18446744073709551616 := fun x => by simp [IntKind.wrap, IntKind.bits, IntKind.signed]
  simp only [Int.natCast_one, Int.cast_ofNat_Int, Int.natCast_zero] at h1 h2 h3
  unfold bits_Mul.f bits_Mul64.f
  rw [h1, h2]
  simp only [Option.bind_some, wu, Int.one_mul]
  have e1 : ((1 : Int) / 4294967296) = 0 := by decide
  have e2 : ((n : Int) / 4294967296) = 0 := by omega
  rw [e1, e2]
  have e3 : ((0 : Int) * (n : Int) % 18446744073709551616 + ((n : Int) % 18446744073709551616) / 4294967296) % 18446744073709551616 = 0 := by omega
  rw [e3, h3]
  simp only [Option.some.injEq, Prod.mk.injEq]
  omega
set_option maxHeartbeats 8000000 in
set_option maxRecDepth 100000 in
theorem slices_Repeat_int64_int64.calls (A0 : Option Addr) (c0 : Nat) (l0 : List Int) (a1 : Int) (r : List Int) (w : World) (hr0 : Kd.C (Kd.int .i64) w A0 l0.length l0) (hc0 : l0.length ≤ c0) (h : slices_Repeat_int64_int64.f l0 a1 = some r) :
    Calls Try.prog 53 #[.slice A0 l0.length c0, .int .i64 a1] w fun e w' => ∃ v0_ : Value, e = .returned (v0_) ∧ Kd.R (Kd.int .i64) 2 w' w.heap.size (fun _ => True) v0_ r ∧ Below w.heap.size w w' := by
  have HR0 := Aside0.mk hr0
  have HB := Aside0.mk (Below.refl w.heap.size w)
  unfold slices_Repeat_int64_int64.f at h
  by_cases h1 : l0.length = 1
  case neg => rw [if_neg h1] at h; exact absurd h (by simp)
  by_cases h2 : 0 ≤ a1
  case neg => rw [if_pos h1, if_neg h2] at h; exact absurd h (by simp)
  by_cases h3 : a1 ≤ 1000000
  case neg => rw [if_pos h1, if_pos h2, if_neg h3] at h; exact absurd h (by simp)
  rw [if_pos h1, if_pos h2, if_pos h3] at h
  obtain rfl := Option.some.inj h
  obtain ⟨x, rfl⟩ := List.length_eq_one_iff.1 h1
  obtain ⟨N, rfl⟩ := Int.eq_ofNat_of_zero_le h2
  have hN : N ≤ 1000000 := by omega
  have HM := Aside0.mk (slices_Repeat_int64_int64_mul N hN)
  rw [Int.toNat_natCast]
  show Calls Try.prog 53 #[.slice A0 1 c0, .int .i64 (N : Int)] w fun e w' => ∃ v0_ : Value, e = .returned (v0_) ∧ Kd.R (Kd.int .i64) 2 w' w.heap.size (fun _ => True) v0_ (List.replicate N x) ∧ Below w.heap.size w w'
  have HC0 := Aside0.mk hc0
  obtain ⟨m0, hm0⟩ : ∃ m0, m0 = min 1 N := ⟨_, rfl⟩
  have HMIN := Aside0.mk (show min 1 (List.replicate N (0 : Int)).length = m0 by rw [hm0]; simp)
  have HM0 := Aside0.mk hm0
  clear h h1 h2 h3 hr0 hc0 hm0
  go_enter Try.func53, Try.ntmps53
  go_wp2_with (first
    | (go_at_call 65; refine (bits_Mul.calls 1 (N : Int) 0 (N : Int) _ HM.out).mono ?_; rintro e w1 ⟨rfl, hd⟩; have HB1 := Aside0.mk (show Below w.heap.size w w1 by obtain ⟨q_, rfl⟩ := hd; exact pw_below_drewN (Below.refl _ _) q_); clear hd)
    | ((with_reducible refine gate_dst (N := 30) rfl ?_); refine Kd.R_make (Kd.int .i64) (w0 := w) w.heap.size 2 rfl (N := 30) rfl 23 _ _ rfl (N : Int) rfl rfl Try.underlying23 (.int .i64 0) 8 info2 rfl (by decide) (by omega) (0 : Int) (ok := fun _ => True) (okp := fun _ => True) rfl (fun _ hk => hk) trivial (by omega) (by rw [Int.toNat_natCast]; omega) HB1.out (below_size HB1.out) ?_; intro v2 w2 ho hb hg_ hn_; clear hg_ hn_; rw [Int.toNat_natCast] at ho; have HO2 := Aside0.mk ho; have HB2 := Aside0.mk hb; clear ho hb)
    | ((with_reducible refine gate_dst (N := 33) rfl ?_); refine Kd.R_copy (0 : Int) (w0 := w) w.heap.size rfl (.tmp 31) (.tmp 32) 23 23 2 rfl Try.underlying23 (by kernel_rfl) v2 (List.replicate N (0 : Int)) [x] A0 1 c0 (fun _ => True) rfl rfl HO2.out (Kd.C_below HR0.out HB2.out) HB2.out (below_size HB2.out) ?_; intro w3 ho hb hg_; clear hg_; rw [HMIN.out] at ho ⊢; have HO3 := Aside0.mk ho; have HB3 := Aside0.mk hb; clear ho hb)
    )
  obtain ⟨L1, hL1⟩ : ∃ L1 : List Int, L1 = [x].take m0 ++ (List.replicate N (0 : Int)).drop m0 := ⟨_, rfl⟩
  have hlen : L1.length = N := by rw [hL1, HM0.out]; simp; omega
  have HO := Aside0.mk (show Kd.R (Kd.int .i64) 2 w3 w.heap.size (fun _ => True) v2 L1 by rw [hL1]; exact HO3.out)
  have hhead : 1 ≤ N → L1.take 1 = [x] := fun h => by rw [hL1, HM0.out, Nat.min_eq_left h]; simp
  clear HO2 HO3 HB1 HB2 HMIN hL1 HM HR0 HC0
  rcases Nat.eq_zero_or_pos N with rfl | hpos
  · obtain rfl : m0 = 0 := by rw [HM0.out]; rfl
    obtain ⟨Ao, co, rfl⟩ := Kd.R_slice HO.out
    rw [hlen]
    have hL0 : L1 = [] := List.eq_nil_of_length_eq_zero hlen
    have HL := Aside0.mk hL0
    clear hL0 hhead hlen
    go_loopw [8] (fun v8 wr => v8 = .int .i64 0 ∧ Aside0 (wr = w3)) (fun _ _ => 0)
    case atStart => exact ⟨rfl, ⟨rfl⟩⟩
    case round =>
      obtain ⟨rfl, HW⟩ := hrel
      obtain rfl := HW.out
      clear HW
      go_wp2
      go_ret
      exact ⟨_, rfl, by have h_ := HO.out; rw [HL.out] at h_; exact h_, HB3.out⟩
  · obtain ⟨g, cap, cur, hv, hbg, hh, hnc, hcm, hsz, htk⟩ := H.R_unpack HO.out (by omega)
    rw [hlen] at hv hnc htk
    subst hv
    obtain rfl : m0 = 1 := by rw [HM0.out, Nat.min_eq_left hpos]
    have HS := Aside0.mk (show H.repSt .i64 2 w w3 g cap 1 x from ⟨HB3.out, hbg, hcm, cur, hh, hsz, by
      have h1 := congrArg (List.take 1) htk
      rw [List.take_take, Nat.min_eq_left hpos, ← List.map_take, hhead hpos] at h1
      exact h1⟩)
    have HBG := Aside0.mk hbg
    have HCM := Aside0.mk hcm
    clear HO HB3 htk hsz hh hhead hlen hbg hcm
    obtain ⟨i0, hi0, _, hsz0, _⟩ := info_parts info2
    go_loopw [8] (fun v8 wr => ∃ k : Nat, 1 ≤ k ∧ k ≤ N ∧ v8 = .int .i64 k ∧ Aside0 (H.repSt .i64 2 w wr g cap k x)) (fun v8 _ => N - (intOf v8).toNat)
    case atStart => exact ⟨1, Nat.le_refl _, hpos, rfl, HS⟩
    case round =>
      clear HS
      obtain ⟨k, hk1, hkN, rfl, HS⟩ := hrel
      by_cases hlt : k < N
      · have hltz : (k : Int) < (N : Int) := by omega
        have hA := cut_to (P := Try.prog) 23 2 .i64 Try.underlying23 hi0 (some ⟨g, 0, none⟩) N cap (k : Int) (by omega) (by omega) hnc
        have hD := cut_from (P := Try.prog) 23 2 .i64 Try.underlying23 hi0 1 hsz0 (some ⟨g, 0, none⟩) N cap (k : Int) (by omega) (by omega)
        have hA2 : ∀ W : World, (Instr.slice 23 (.slice (some ⟨g, 0, none⟩) N cap) none (some (.int .i64 (k : Int))) none).run Try.prog W = .ok (.slice (some ⟨g, 0, none⟩) k cap) W := fun W => by have h_ := hA W; rw [Int.toNat_natCast] at h_; exact h_
        have hD2 : ∀ W : World, (Instr.slice 23 (.slice (some ⟨g, 0, none⟩) N cap) (some (.int .i64 (k : Int))) none none).run Try.prog W = .ok (.slice (some ⟨g, k, none⟩) (N - k) (cap - k)) W := fun W => by
          have h_ := hD W
          rw [Int.toNat_natCast, if_neg (show ¬ cap = k by omega)] at h_
          rw [h_]
          simp [Addr.add, show ¬ k = 0 by omega]
        clear hA hD
        obtain ⟨cur, hh, hsz, htk⟩ := HS.out.row
        have HSP := Aside0.mk (H.rep_splice (k := .i64) (x := x) (m := k) (j := min k (N - k)) (N := N) hkN (Nat.min_le_left _ _) (by omega) htk)
        have HH := Aside0.mk hh
        have HSZ := Aside0.mk hsz
        have HTK := Aside0.mk htk
        clear hh hsz htk
        have HSRC := Aside0.mk (show ∀ (W : World), W.heap[g]? = some (.cells cur.toArray 2 (0, 0)) → ∀ (j : Nat) (v : Value), (List.replicate (min k (N - k)) (Value.int .i64 x))[j]? = some v → W.cell? ((⟨g, 0, none⟩ : Addr).add j) = some v by
          intro W hW j v hv
          rw [List.getElem?_replicate] at hv
          split at hv
          · injection hv with hv
            subst hv
            have h1 : (cur.take k)[j]? = some (.int .i64 x) := by rw [HTK.out, List.getElem?_replicate, if_pos (by omega)]
            rw [List.getElem?_take] at h1
            split at h1
            · rw [show ((⟨g, 0, none⟩ : Addr).add j) = ⟨g, j, none⟩ by cases j <;> simp [Addr.add], H.cell_list hW]; exact h1
            · cases h1
          · cases hv)
        have HL := Aside0.mk (show k + (List.replicate (min k (N - k)) (Value.int .i64 x)).length ≤ cur.length by have := HSZ.out; simp; omega)
        have H1 := Aside0.mk (show ∀ v ∈ List.replicate (min k (N - k)) (Value.int .i64 x), v.oneCell' = true from fun v hv => by rw [(List.mem_replicate.1 hv).2]; rfl)
        have HMN := Aside0.mk (show (List.replicate (min k (N - k)) (Value.int .i64 x)).length = Nat.min k (N - k) by simp)
        go_wp2
        refine start_ (n := 10) (S := fun w' => True) (ds := []) #[false, false, false, false, false, false, false, false, false, false] (by kernel_rfl) rfl rfl trivial (fun hHeld => ?_)
        refine pure_ (i := 0) (N := some 38) (v := ?_) (a' := ?_) #[true, false, false, false, false, false, false, false, false, false] rfl rfl (by kernel_rfl) (fun _ _ _ h => h) (Or.inl ⟨by rfl, ?_⟩) ?_ ?_
        rotate_left
        · intro w'
          go_simp
          with_reducible rfl
        rotate_left
        · simp only [Act.put, List.setIfInBounds_toArray, List.set_cons_zero, List.set_cons_succ, i64_w, i32_w]
          rfl
        refine pure_ (i := 1) (N := some 39) (v := ?_) (a' := ?_) #[true, true, false, false, false, false, false, false, false, false] rfl rfl (by kernel_rfl) (fun _ _ _ h => h) (Or.inl ⟨by rfl, ?_⟩) ?_ ?_
        rotate_left
        · intro w'
          go_simp
          with_reducible rfl
        rotate_left
        · simp only [Act.put, List.setIfInBounds_toArray, List.set_cons_zero, List.set_cons_succ, i64_w, i32_w]
          rfl
        refine pure_ (i := 2) (N := some 40) (v := ?_) (a' := ?_) #[true, true, true, false, false, false, false, false, false, false] rfl rfl (by kernel_rfl) (fun _ _ _ h => h) (Or.inl ⟨by rfl, ?_⟩) ?_ ?_
        rotate_left
        · intro w'
          go_simp
          with_reducible rfl
        rotate_left
        · simp only [Act.put, List.setIfInBounds_toArray, List.set_cons_zero, List.set_cons_succ, i64_w, i32_w]
          rfl
        refine pure_ (i := 3) (N := some 41) (v := ?_) (a' := ?_) #[true, true, true, true, false, false, false, false, false, false] rfl rfl (by kernel_rfl) (fun _ _ _ h => h) (Or.inl ⟨by rfl, ?_⟩) ?_ ?_
        rotate_left
        · intro w'
          go_simp
          with_reducible rfl
        rotate_left
        · simp only [Act.put, List.setIfInBounds_toArray, List.set_cons_zero, List.set_cons_succ, i64_w, i32_w]
          rfl
        refine pure_ (i := 4) (N := some 42) (v := ?_) (a' := ?_) #[true, true, true, true, true, false, false, false, false, false] rfl rfl (by kernel_rfl) (fun _ _ _ h => h) (Or.inl ⟨by rfl, ?_⟩) ?_ ?_
        rotate_left
        · intro w'
          go_simp
          with_reducible rfl
        rotate_left
        · simp only [Act.put, List.setIfInBounds_toArray, List.set_cons_zero, List.set_cons_succ, i64_w, i32_w]
          rfl
        refine pure_ (i := 5) (N := some 43) (v := ?_) (a' := ?_) #[true, true, true, true, true, true, false, false, false, false] rfl rfl (by kernel_rfl) (fun _ _ _ h => h) (Or.inl ⟨by rfl, ?_⟩) ?_ ?_
        rotate_left
        · intro w'
          go_simp
          with_reducible rfl
        rotate_left
        · simp only [Act.put, List.setIfInBounds_toArray, List.set_cons_zero, List.set_cons_succ, i64_w, i32_w]
          rfl
        refine pure_ (i := 6) (N := some 44) (v := ?_) (a' := ?_) #[true, true, true, true, true, true, true, false, false, false] rfl rfl (by kernel_rfl) (fun _ _ _ h => h) (Or.inl ⟨by rfl, ?_⟩) ?_ ?_
        rotate_left
        · intro w'
          go_simp
          with_reducible rfl
        rotate_left
        · simp only [Act.put, List.setIfInBounds_toArray, List.set_cons_zero, List.set_cons_succ, i64_w, i32_w]
          rfl
        refine one_ (i := 7) (N := some 45) #[true, true, true, true, true, true, true, true, false, false] rfl rfl (by kernel_rfl) (by decide) (fun K hK => ?_)
        refine step_copy_splice rfl (.tmp 41) (.tmp 44) 23 23 rfl 2 Try.underlying23 (by kernel_rfl) (some ⟨g, k, none⟩) (some ⟨g, 0, none⟩) (N - k) (cap - k) k cap rfl rfl g k cur 2 HH.out (List.replicate (min k (N - k)) (.int .i64 x)) HMN.out (fun _ => ⟨rfl, _, rfl, HSRC.out _ HH.out⟩) HL.out H1.out w.heap.size w (below_drew1 HS.out.below) HBG.out ?_
        intro w4 hg4 hb4
        refine hK.out _ _ trivial (fun hHeld => ?_)
        clear hK K
        refine norm_ (a' := ?_) ?_ ?_
        rotate_left
        · show Act.put _ (some 45) _ = _
          simp only [Act.put, List.setIfInBounds_toArray, List.set_cons_zero, List.set_cons_succ, i64_w, i32_w]
          rfl
        refine pure_ (i := 8) (N := some 46) (v := ?_) (a' := ?_) #[true, true, true, true, true, true, true, true, true, false] rfl rfl (by kernel_rfl) (fun _ _ _ h => h) (Or.inl ⟨by rfl, ?_⟩) ?_ ?_
        rotate_left
        · intro w'
          go_simp
          with_reducible rfl
        rotate_left
        · simp only [Act.put, List.setIfInBounds_toArray, List.set_cons_zero, List.set_cons_succ, i64_w, i32_w]
          rfl
        refine pure_ (i := 9) (N := some 8) (v := ?_) (a' := ?_) #[true, true, true, true, true, true, true, true, true, true] rfl rfl (by kernel_rfl) (fun _ _ _ h => h) (Or.inl ⟨by rfl, ?_⟩) ?_ ?_
        rotate_left
        · intro w'
          go_simp
          with_reducible rfl
        rotate_left
        · simp only [Act.put, List.setIfInBounds_toArray, List.set_cons_zero, List.set_cons_succ, i64_w, i32_w]
          rfl
        refine done_ (by kernel_rfl) ?_
        have HW := Aside0.mk (show wrap64 ((k : Int) + ((min k (N - k) : Nat) : Int)) = ((k + min k (N - k) : Nat) : Int) by unfold wrap64; omega)
        go_roundw
        case measure => rw [HW.out]; simp [intOf]; omega
        case rel => (repeat apply Exists.intro); exact ⟨⟨k + min k (N - k), by omega, by omega, by rw [HW.out], ⟨hb4, HBG.out, HCM.out, _, hg4.out, by rw [HSP.out.1]; exact HSZ.out, HSP.out.2⟩⟩, rfl⟩
      · have hltz : ¬ (k : Int) < (N : Int) := by omega
        obtain rfl : k = N := by omega
        go_wp2
        go_ret
        obtain ⟨cur, h1, h2, h3⟩ := HS.out.row
        exact ⟨_, rfl, by have h_ := H.R_pack (k := .i64) (xs := List.replicate k x) HBG.out h1 (by rw [List.length_replicate]; exact hnc) HCM.out h2 (by rw [List.length_replicate, h3]; simp); rw [List.length_replicate] at h_; exact h_, HS.out.below⟩


/-! ### relax_row_int64: function 38 -/
def relax_row_int64.f (a0 : Int) (a1 : Int) : Option (List Int) := (slices_Repeat_int64_int64.f (([a1] : List Int)) a0).bind fun t142 => (some t142)
set_option maxHeartbeats 8000000 in
set_option maxRecDepth 100000 in
theorem relax_row_int64.calls (a0 : Int) (a1 : Int) (r : List Int) (w : World) (h : relax_row_int64.f a0 a1 = some r) :
    Calls Try.prog 38 #[.int .i64 a0, .int .i64 a1] w fun e w' => ∃ v0_ : Value, e = .returned (v0_) ∧ Kd.R (Kd.int .i64) 2 w' w.heap.size (fun _ => True) v0_ r ∧ Below w.heap.size w w' := by
  have HB := Aside0.mk (Below.refl w.heap.size w)
  have H : ((slices_Repeat_int64_int64.f (([a1] : List Int)) a0).bind fun t142 => (some t142)) = some r := h
  clear h
  obtain ⟨y139, hy139⟩ : ∃ y_ : List Int, y_ = (([a1] : List Int)) := ⟨_, rfl⟩
  replace H : ((slices_Repeat_int64_int64.f y139 a0).bind fun t142 => (some t142)) = some r := by first | (rw [hy139]; with_reducible exact H) | (have H2_ := (Option.bind_some _ _).symm.trans H; rw [hy139]; with_reducible exact H2_) | (have H2_ := (Option.bind_some _ _).symm.trans H; with_reducible exact H2_) | with_reducible exact H | (rw [hy139]; exact H) | exact H
  have Ny139 := Aside0.mk hy139
  clear hy139
  replace H := Option.bind_eq_some_iff.mp H
  obtain ⟨t142, A30, H⟩ := H
  replace H : (some t142) = some r := H
  have A3 := Aside0.mk A30
  clear A30
  obtain rfl := Option.some.inj H
  go_enter Try.func38, Try.ntmps38
  go_wp2_with (first | ((with_reducible refine gate_dst (N := 6) rfl ?_); refine Kd.R_lit (Kd.int .i64) _ 2 ?hg (N := 6) ?hd (xs := ([a1] : List Int)) (inner := [.int .i64 a1]) (ok := fun _ => True) (okp := fun _ => True) ?hr ?hp (fun _ hk => hk) trivial (Below.refl _ _) (Nat.le_refl _) (by simp) ?_; (case hd => rfl); (case hg => rfl); (case hr => first | (go_simp; done) | (go_simp; rfl)); (case hp => exact (Reps.one (show Kd.M (Kd.int .i64) _ _ _ a1 [.int .i64 a1] from rfl) (Reps.none _ _))); intro v140 w4 ho5 hb hg_ hnew_; clear hg_ hnew_; (first | rw [← Ny139.out] at ho5 | (simp only [Int.reduceToNat] at ho5; rw [← Ny139.out] at ho5)); have n0_ := Aside0.mk (Kd.R_lower ho5 (below_size (by repeat (first | (with_reducible first | exact HB.out | apply below_alloc | apply pw_below_drewN | apply below_drew1) | exact HB.out)))); have n1_ := Aside0.mk (below_step (by repeat (first | (with_reducible first | exact HB.out | apply below_alloc | apply pw_below_drewN | apply below_drew1) | exact HB.out)) hb); clear HB; have HO141 := n0_; have HB := n1_; clear n0_ n1_; clear hb ho5; obtain ⟨Ao6, co6, eo6⟩ := Kd.R_slice HO141.out; subst eo6) | ((with_reducible refine gate_callee (f := 53) rfl ?_); refine goesL_ (some 8) rfl rfl Try.func53 (by kernel_rfl) rfl #[.slice Ao6 y139.length co6, .int .i64 a0] rfl (by (try simp only [List.map_toArray, List.map_cons, List.map_nil]); first | done | rfl | (simp only [List.length_drop, List.length_take]; rfl)) ?_; (with_reducible refine (slices_Repeat_int64_int64.calls _ _ y139 a0 t142 _ ?side1 ?side2 A3.out).mono ?_); (case side1 => repeat (first | exact (Kd.R_reads' HO141.out).2.2 | (with_reducible refine Kd.C_alloc ?_ _) | (with_reducible refine Kd.C_drewN ?_ _) | (with_reducible refine Kd.C_drew ?_))); (case side2 => exact (Kd.R_reads' HO141.out).2.1); rintro e w7 ⟨v143, rfl, ho0, hb⟩; refine ⟨_, rfl, ?_⟩; have n0_ := Aside0.mk (Kd.R_elder' (by (with_reducible repeat (first | apply Kd.R_alloc | apply Kd.R_drewN | apply Kd.R_drew)); exact HO141.out) (Kd.R_base ho0) hb); have n1_ := Aside0.mk (Kd.R_lower (Kd.R_new' ho0 (Kd.R_lt (by (with_reducible repeat (first | apply Kd.R_alloc | apply Kd.R_drewN | apply Kd.R_drew)); exact HO141.out))) (below_size (by repeat (first | (with_reducible first | exact HB.out | apply below_alloc | apply pw_below_drewN | apply below_drew1) | exact HB.out)))); have n2_ := Aside0.mk (below_step (by repeat (first | (with_reducible first | exact HB.out | apply below_alloc | apply pw_below_drewN | apply below_drew1) | exact HB.out)) hb); clear HO141; clear HB; have HO141 := n0_; have HO144 := n1_; have HB := n2_; clear n0_ n1_ n2_; (try clear hb); (try clear hb2); (try clear hk); (try clear hi); (try clear ho0)))
  go_ret
  exact ⟨_, by first | rfl | (simp [errW_none, errW_some] <;> rfl) | (simp [*, errW_none, errW_some] <;> rfl), by (with_reducible repeat (first | apply Kd.R_alloc | apply Kd.R_drewN | apply Kd.R_drew)); exact Kd.R_mono HO144.out (fun _ hk => trivial), by repeat (first | (with_reducible first | exact HB.out | apply below_alloc | apply pw_below_drewN | apply below_drew1) | exact HB.out)⟩

/-! ### slices_Repeat_int_int: function 54 -/
def slices_Repeat_int_int.f (l0 : List Int) (a1 : Int) : Option (List Int) := if l0.length = 1 then (if 0 ≤ a1 then (if a1 ≤ 1000000 then some (List.replicate a1.toNat (l0.getD 0 0)) else none) else none) else none
theorem slices_Repeat_int_int_mul (n : Nat) (h : n ≤ 1000000) : bits_Mul.f 1 (n : Int) = some (0, (n : Int)) := by
  have h1 : Go.bits .and .u64 ((1 : Nat) : Int) ((4294967295 : Nat) : Int) = ((1 : Nat) : Int) := by rw [Go.u64_and_nat 1 4294967295 (by decide) (by decide)]; rfl
  have h2 : Go.bits .and .u64 ((n : Nat) : Int) ((4294967295 : Nat) : Int) = ((n : Nat) : Int) := by
    rw [Go.u64_and_nat n 4294967295 (by omega) (by decide), show (4294967295 : Nat) = 2 ^ 32 - 1 by decide, Nat.and_two_pow_sub_one_eq_mod]
    omega
  have h3 : Go.bits .and .u64 ((0 : Nat) : Int) ((4294967295 : Nat) : Int) = ((0 : Nat) : Int) := by rw [Go.u64_and_nat 0 4294967295 (by decide) (by decide)]; rfl
  have wu : ∀ x : Int, IntKind.u64.wrap x = x % 18446744073709551616 := fun x => by simp [IntKind.wrap, IntKind.bits, IntKind.signed]
  simp only [Int.natCast_one, Int.cast_ofNat_Int, Int.natCast_zero] at h1 h2 h3
  unfold bits_Mul.f bits_Mul64.f
  rw [h1, h2]
  simp only [Option.bind_some, wu, Int.one_mul]
  have e1 : ((1 : Int) / 4294967296) = 0 := by decide
  have e2 : ((n : Int) / 4294967296) = 0 := by omega
  rw [e1, e2]
  have e3 : ((0 : Int) * (n : Int) % 18446744073709551616 + ((n : Int) % 18446744073709551616) / 4294967296) % 18446744073709551616 = 0 := by omega
  rw [e3, h3]
  simp only [Option.some.injEq, Prod.mk.injEq]
  omega
set_option maxHeartbeats 8000000 in
set_option maxRecDepth 100000 in
theorem slices_Repeat_int_int.calls (A0 : Option Addr) (c0 : Nat) (l0 : List Int) (a1 : Int) (r : List Int) (w : World) (hr0 : Kd.C (Kd.int .i64) w A0 l0.length l0) (hc0 : l0.length ≤ c0) (h : slices_Repeat_int_int.f l0 a1 = some r) :
    Calls Try.prog 54 #[.slice A0 l0.length c0, .int .i64 a1] w fun e w' => ∃ v0_ : Value, e = .returned (v0_) ∧ Kd.R (Kd.int .i64) 3 w' w.heap.size (fun _ => True) v0_ r ∧ Below w.heap.size w w' := by
  have HR0 := Aside0.mk hr0
  have HB := Aside0.mk (Below.refl w.heap.size w)
  unfold slices_Repeat_int_int.f at h
  by_cases h1 : l0.length = 1
  case neg => rw [if_neg h1] at h; exact absurd h (by simp)
  by_cases h2 : 0 ≤ a1
  case neg => rw [if_pos h1, if_neg h2] at h; exact absurd h (by simp)
  by_cases h3 : a1 ≤ 1000000
  case neg => rw [if_pos h1, if_pos h2, if_neg h3] at h; exact absurd h (by simp)
  rw [if_pos h1, if_pos h2, if_pos h3] at h
  obtain rfl := Option.some.inj h
  obtain ⟨x, rfl⟩ := List.length_eq_one_iff.1 h1
  obtain ⟨N, rfl⟩ := Int.eq_ofNat_of_zero_le h2
  have hN : N ≤ 1000000 := by omega
  have HM := Aside0.mk (slices_Repeat_int_int_mul N hN)
  rw [Int.toNat_natCast]
  show Calls Try.prog 54 #[.slice A0 1 c0, .int .i64 (N : Int)] w fun e w' => ∃ v0_ : Value, e = .returned (v0_) ∧ Kd.R (Kd.int .i64) 3 w' w.heap.size (fun _ => True) v0_ (List.replicate N x) ∧ Below w.heap.size w w'
  have HC0 := Aside0.mk hc0
  obtain ⟨m0, hm0⟩ : ∃ m0, m0 = min 1 N := ⟨_, rfl⟩
  have HMIN := Aside0.mk (show min 1 (List.replicate N (0 : Int)).length = m0 by rw [hm0]; simp)
  have HM0 := Aside0.mk hm0
  clear h h1 h2 h3 hr0 hc0 hm0
  go_enter Try.func54, Try.ntmps54
  go_wp2_with (first
    | (go_at_call 65; refine (bits_Mul.calls 1 (N : Int) 0 (N : Int) _ HM.out).mono ?_; rintro e w1 ⟨rfl, hd⟩; have HB1 := Aside0.mk (show Below w.heap.size w w1 by obtain ⟨q_, rfl⟩ := hd; exact pw_below_drewN (Below.refl _ _) q_); clear hd)
    | ((with_reducible refine gate_dst (N := 30) rfl ?_); refine Kd.R_make (Kd.int .i64) (w0 := w) w.heap.size 3 rfl (N := 30) rfl 37 _ _ rfl (N : Int) rfl rfl Try.underlying37 (.int .i64 0) 8 info3 rfl (by decide) (by omega) (0 : Int) (ok := fun _ => True) (okp := fun _ => True) rfl (fun _ hk => hk) trivial (by omega) (by rw [Int.toNat_natCast]; omega) HB1.out (below_size HB1.out) ?_; intro v2 w2 ho hb hg_ hn_; clear hg_ hn_; rw [Int.toNat_natCast] at ho; have HO2 := Aside0.mk ho; have HB2 := Aside0.mk hb; clear ho hb)
    | ((with_reducible refine gate_dst (N := 33) rfl ?_); refine Kd.R_copy (0 : Int) (w0 := w) w.heap.size rfl (.tmp 31) (.tmp 32) 37 37 3 rfl Try.underlying37 (by kernel_rfl) v2 (List.replicate N (0 : Int)) [x] A0 1 c0 (fun _ => True) rfl rfl HO2.out (Kd.C_below HR0.out HB2.out) HB2.out (below_size HB2.out) ?_; intro w3 ho hb hg_; clear hg_; rw [HMIN.out] at ho ⊢; have HO3 := Aside0.mk ho; have HB3 := Aside0.mk hb; clear ho hb)
    )
  obtain ⟨L1, hL1⟩ : ∃ L1 : List Int, L1 = [x].take m0 ++ (List.replicate N (0 : Int)).drop m0 := ⟨_, rfl⟩
  have hlen : L1.length = N := by rw [hL1, HM0.out]; simp; omega
  have HO := Aside0.mk (show Kd.R (Kd.int .i64) 3 w3 w.heap.size (fun _ => True) v2 L1 by rw [hL1]; exact HO3.out)
  have hhead : 1 ≤ N → L1.take 1 = [x] := fun h => by rw [hL1, HM0.out, Nat.min_eq_left h]; simp
  clear HO2 HO3 HB1 HB2 HMIN hL1 HM HR0 HC0
  rcases Nat.eq_zero_or_pos N with rfl | hpos
  · obtain rfl : m0 = 0 := by rw [HM0.out]; rfl
    obtain ⟨Ao, co, rfl⟩ := Kd.R_slice HO.out
    rw [hlen]
    have hL0 : L1 = [] := List.eq_nil_of_length_eq_zero hlen
    have HL := Aside0.mk hL0
    clear hL0 hhead hlen
    go_loopw [8] (fun v8 wr => v8 = .int .i64 0 ∧ Aside0 (wr = w3)) (fun _ _ => 0)
    case atStart => exact ⟨rfl, ⟨rfl⟩⟩
    case round =>
      obtain ⟨rfl, HW⟩ := hrel
      obtain rfl := HW.out
      clear HW
      go_wp2
      go_ret
      exact ⟨_, rfl, by have h_ := HO.out; rw [HL.out] at h_; exact h_, HB3.out⟩
  · obtain ⟨g, cap, cur, hv, hbg, hh, hnc, hcm, hsz, htk⟩ := H.R_unpack HO.out (by omega)
    rw [hlen] at hv hnc htk
    subst hv
    obtain rfl : m0 = 1 := by rw [HM0.out, Nat.min_eq_left hpos]
    have HS := Aside0.mk (show H.repSt .i64 3 w w3 g cap 1 x from ⟨HB3.out, hbg, hcm, cur, hh, hsz, by
      have h1 := congrArg (List.take 1) htk
      rw [List.take_take, Nat.min_eq_left hpos, ← List.map_take, hhead hpos] at h1
      exact h1⟩)
    have HBG := Aside0.mk hbg
    have HCM := Aside0.mk hcm
    clear HO HB3 htk hsz hh hhead hlen hbg hcm
    obtain ⟨i0, hi0, _, hsz0, _⟩ := info_parts info3
    go_loopw [8] (fun v8 wr => ∃ k : Nat, 1 ≤ k ∧ k ≤ N ∧ v8 = .int .i64 k ∧ Aside0 (H.repSt .i64 3 w wr g cap k x)) (fun v8 _ => N - (intOf v8).toNat)
    case atStart => exact ⟨1, Nat.le_refl _, hpos, rfl, HS⟩
    case round =>
      clear HS
      obtain ⟨k, hk1, hkN, rfl, HS⟩ := hrel
      by_cases hlt : k < N
      · have hltz : (k : Int) < (N : Int) := by omega
        have hA := cut_to (P := Try.prog) 37 3 .i64 Try.underlying37 hi0 (some ⟨g, 0, none⟩) N cap (k : Int) (by omega) (by omega) hnc
        have hD := cut_from (P := Try.prog) 37 3 .i64 Try.underlying37 hi0 1 hsz0 (some ⟨g, 0, none⟩) N cap (k : Int) (by omega) (by omega)
        have hA2 : ∀ W : World, (Instr.slice 37 (.slice (some ⟨g, 0, none⟩) N cap) none (some (.int .i64 (k : Int))) none).run Try.prog W = .ok (.slice (some ⟨g, 0, none⟩) k cap) W := fun W => by have h_ := hA W; rw [Int.toNat_natCast] at h_; exact h_
        have hD2 : ∀ W : World, (Instr.slice 37 (.slice (some ⟨g, 0, none⟩) N cap) (some (.int .i64 (k : Int))) none none).run Try.prog W = .ok (.slice (some ⟨g, k, none⟩) (N - k) (cap - k)) W := fun W => by
          have h_ := hD W
          rw [Int.toNat_natCast, if_neg (show ¬ cap = k by omega)] at h_
          rw [h_]
          simp [Addr.add, show ¬ k = 0 by omega]
        clear hA hD
        obtain ⟨cur, hh, hsz, htk⟩ := HS.out.row
        have HSP := Aside0.mk (H.rep_splice (k := .i64) (x := x) (m := k) (j := min k (N - k)) (N := N) hkN (Nat.min_le_left _ _) (by omega) htk)
        have HH := Aside0.mk hh
        have HSZ := Aside0.mk hsz
        have HTK := Aside0.mk htk
        clear hh hsz htk
        have HSRC := Aside0.mk (show ∀ (W : World), W.heap[g]? = some (.cells cur.toArray 3 (0, 0)) → ∀ (j : Nat) (v : Value), (List.replicate (min k (N - k)) (Value.int .i64 x))[j]? = some v → W.cell? ((⟨g, 0, none⟩ : Addr).add j) = some v by
          intro W hW j v hv
          rw [List.getElem?_replicate] at hv
          split at hv
          · injection hv with hv
            subst hv
            have h1 : (cur.take k)[j]? = some (.int .i64 x) := by rw [HTK.out, List.getElem?_replicate, if_pos (by omega)]
            rw [List.getElem?_take] at h1
            split at h1
            · rw [show ((⟨g, 0, none⟩ : Addr).add j) = ⟨g, j, none⟩ by cases j <;> simp [Addr.add], H.cell_list hW]; exact h1
            · cases h1
          · cases hv)
        have HL := Aside0.mk (show k + (List.replicate (min k (N - k)) (Value.int .i64 x)).length ≤ cur.length by have := HSZ.out; simp; omega)
        have H1 := Aside0.mk (show ∀ v ∈ List.replicate (min k (N - k)) (Value.int .i64 x), v.oneCell' = true from fun v hv => by rw [(List.mem_replicate.1 hv).2]; rfl)
        have HMN := Aside0.mk (show (List.replicate (min k (N - k)) (Value.int .i64 x)).length = Nat.min k (N - k) by simp)
        go_wp2
        refine start_ (n := 10) (S := fun w' => True) (ds := []) #[false, false, false, false, false, false, false, false, false, false] (by kernel_rfl) rfl rfl trivial (fun hHeld => ?_)
        refine pure_ (i := 0) (N := some 38) (v := ?_) (a' := ?_) #[true, false, false, false, false, false, false, false, false, false] rfl rfl (by kernel_rfl) (fun _ _ _ h => h) (Or.inl ⟨by rfl, ?_⟩) ?_ ?_
        rotate_left
        · intro w'
          go_simp
          with_reducible rfl
        rotate_left
        · simp only [Act.put, List.setIfInBounds_toArray, List.set_cons_zero, List.set_cons_succ, i64_w, i32_w]
          rfl
        refine pure_ (i := 1) (N := some 39) (v := ?_) (a' := ?_) #[true, true, false, false, false, false, false, false, false, false] rfl rfl (by kernel_rfl) (fun _ _ _ h => h) (Or.inl ⟨by rfl, ?_⟩) ?_ ?_
        rotate_left
        · intro w'
          go_simp
          with_reducible rfl
        rotate_left
        · simp only [Act.put, List.setIfInBounds_toArray, List.set_cons_zero, List.set_cons_succ, i64_w, i32_w]
          rfl
        refine pure_ (i := 2) (N := some 40) (v := ?_) (a' := ?_) #[true, true, true, false, false, false, false, false, false, false] rfl rfl (by kernel_rfl) (fun _ _ _ h => h) (Or.inl ⟨by rfl, ?_⟩) ?_ ?_
        rotate_left
        · intro w'
          go_simp
          with_reducible rfl
        rotate_left
        · simp only [Act.put, List.setIfInBounds_toArray, List.set_cons_zero, List.set_cons_succ, i64_w, i32_w]
          rfl
        refine pure_ (i := 3) (N := some 41) (v := ?_) (a' := ?_) #[true, true, true, true, false, false, false, false, false, false] rfl rfl (by kernel_rfl) (fun _ _ _ h => h) (Or.inl ⟨by rfl, ?_⟩) ?_ ?_
        rotate_left
        · intro w'
          go_simp
          with_reducible rfl
        rotate_left
        · simp only [Act.put, List.setIfInBounds_toArray, List.set_cons_zero, List.set_cons_succ, i64_w, i32_w]
          rfl
        refine pure_ (i := 4) (N := some 42) (v := ?_) (a' := ?_) #[true, true, true, true, true, false, false, false, false, false] rfl rfl (by kernel_rfl) (fun _ _ _ h => h) (Or.inl ⟨by rfl, ?_⟩) ?_ ?_
        rotate_left
        · intro w'
          go_simp
          with_reducible rfl
        rotate_left
        · simp only [Act.put, List.setIfInBounds_toArray, List.set_cons_zero, List.set_cons_succ, i64_w, i32_w]
          rfl
        refine pure_ (i := 5) (N := some 43) (v := ?_) (a' := ?_) #[true, true, true, true, true, true, false, false, false, false] rfl rfl (by kernel_rfl) (fun _ _ _ h => h) (Or.inl ⟨by rfl, ?_⟩) ?_ ?_
        rotate_left
        · intro w'
          go_simp
          with_reducible rfl
        rotate_left
        · simp only [Act.put, List.setIfInBounds_toArray, List.set_cons_zero, List.set_cons_succ, i64_w, i32_w]
          rfl
        refine pure_ (i := 6) (N := some 44) (v := ?_) (a' := ?_) #[true, true, true, true, true, true, true, false, false, false] rfl rfl (by kernel_rfl) (fun _ _ _ h => h) (Or.inl ⟨by rfl, ?_⟩) ?_ ?_
        rotate_left
        · intro w'
          go_simp
          with_reducible rfl
        rotate_left
        · simp only [Act.put, List.setIfInBounds_toArray, List.set_cons_zero, List.set_cons_succ, i64_w, i32_w]
          rfl
        refine one_ (i := 7) (N := some 45) #[true, true, true, true, true, true, true, true, false, false] rfl rfl (by kernel_rfl) (by decide) (fun K hK => ?_)
        refine step_copy_splice rfl (.tmp 41) (.tmp 44) 37 37 rfl 3 Try.underlying37 (by kernel_rfl) (some ⟨g, k, none⟩) (some ⟨g, 0, none⟩) (N - k) (cap - k) k cap rfl rfl g k cur 3 HH.out (List.replicate (min k (N - k)) (.int .i64 x)) HMN.out (fun _ => ⟨rfl, _, rfl, HSRC.out _ HH.out⟩) HL.out H1.out w.heap.size w (below_drew1 HS.out.below) HBG.out ?_
        intro w4 hg4 hb4
        refine hK.out _ _ trivial (fun hHeld => ?_)
        clear hK K
        refine norm_ (a' := ?_) ?_ ?_
        rotate_left
        · show Act.put _ (some 45) _ = _
          simp only [Act.put, List.setIfInBounds_toArray, List.set_cons_zero, List.set_cons_succ, i64_w, i32_w]
          rfl
        refine pure_ (i := 8) (N := some 46) (v := ?_) (a' := ?_) #[true, true, true, true, true, true, true, true, true, false] rfl rfl (by kernel_rfl) (fun _ _ _ h => h) (Or.inl ⟨by rfl, ?_⟩) ?_ ?_
        rotate_left
        · intro w'
          go_simp
          with_reducible rfl
        rotate_left
        · simp only [Act.put, List.setIfInBounds_toArray, List.set_cons_zero, List.set_cons_succ, i64_w, i32_w]
          rfl
        refine pure_ (i := 9) (N := some 8) (v := ?_) (a' := ?_) #[true, true, true, true, true, true, true, true, true, true] rfl rfl (by kernel_rfl) (fun _ _ _ h => h) (Or.inl ⟨by rfl, ?_⟩) ?_ ?_
        rotate_left
        · intro w'
          go_simp
          with_reducible rfl
        rotate_left
        · simp only [Act.put, List.setIfInBounds_toArray, List.set_cons_zero, List.set_cons_succ, i64_w, i32_w]
          rfl
        refine done_ (by kernel_rfl) ?_
        have HW := Aside0.mk (show wrap64 ((k : Int) + ((min k (N - k) : Nat) : Int)) = ((k + min k (N - k) : Nat) : Int) by unfold wrap64; omega)
        go_roundw
        case measure => rw [HW.out]; simp [intOf]; omega
        case rel => (repeat apply Exists.intro); exact ⟨⟨k + min k (N - k), by omega, by omega, by rw [HW.out], ⟨hb4, HBG.out, HCM.out, _, hg4.out, by rw [HSP.out.1]; exact HSZ.out, HSP.out.2⟩⟩, rfl⟩
      · have hltz : ¬ (k : Int) < (N : Int) := by omega
        obtain rfl : k = N := by omega
        go_wp2
        go_ret
        obtain ⟨cur, h1, h2, h3⟩ := HS.out.row
        exact ⟨_, rfl, by have h_ := H.R_pack (k := .i64) (xs := List.replicate k x) HBG.out h1 (by rw [List.length_replicate]; exact hnc) HCM.out h2 (by rw [List.length_replicate, h3]; simp); rw [List.length_replicate] at h_; exact h_, HS.out.below⟩


/-! ### relax_row_int: function 39 -/
def relax_row_int.f (a0 : Int) (a1 : Int) : Option (List Int) := (slices_Repeat_int_int.f (([a1] : List Int)) a0).bind fun t148 => (some t148)
set_option maxHeartbeats 8000000 in
set_option maxRecDepth 100000 in
theorem relax_row_int.calls (a0 : Int) (a1 : Int) (r : List Int) (w : World) (h : relax_row_int.f a0 a1 = some r) :
    Calls Try.prog 39 #[.int .i64 a0, .int .i64 a1] w fun e w' => ∃ v0_ : Value, e = .returned (v0_) ∧ Kd.R (Kd.int .i64) 3 w' w.heap.size (fun _ => True) v0_ r ∧ Below w.heap.size w w' := by
  have HB := Aside0.mk (Below.refl w.heap.size w)
  have H : ((slices_Repeat_int_int.f (([a1] : List Int)) a0).bind fun t148 => (some t148)) = some r := h
  clear h
  obtain ⟨y145, hy145⟩ : ∃ y_ : List Int, y_ = (([a1] : List Int)) := ⟨_, rfl⟩
  replace H : ((slices_Repeat_int_int.f y145 a0).bind fun t148 => (some t148)) = some r := by first | (rw [hy145]; with_reducible exact H) | (have H2_ := (Option.bind_some _ _).symm.trans H; rw [hy145]; with_reducible exact H2_) | (have H2_ := (Option.bind_some _ _).symm.trans H; with_reducible exact H2_) | with_reducible exact H | (rw [hy145]; exact H) | exact H
  have Ny145 := Aside0.mk hy145
  clear hy145
  replace H := Option.bind_eq_some_iff.mp H
  obtain ⟨t148, A30, H⟩ := H
  replace H : (some t148) = some r := H
  have A3 := Aside0.mk A30
  clear A30
  obtain rfl := Option.some.inj H
  go_enter Try.func39, Try.ntmps39
  go_wp2_with (first | ((with_reducible refine gate_dst (N := 6) rfl ?_); refine Kd.R_lit (Kd.int .i64) _ 3 ?hg (N := 6) ?hd (xs := ([a1] : List Int)) (inner := [.int .i64 a1]) (ok := fun _ => True) (okp := fun _ => True) ?hr ?hp (fun _ hk => hk) trivial (Below.refl _ _) (Nat.le_refl _) (by simp) ?_; (case hd => rfl); (case hg => rfl); (case hr => first | (go_simp; done) | (go_simp; rfl)); (case hp => exact (Reps.one (show Kd.M (Kd.int .i64) _ _ _ a1 [.int .i64 a1] from rfl) (Reps.none _ _))); intro v146 w4 ho5 hb hg_ hnew_; clear hg_ hnew_; (first | rw [← Ny145.out] at ho5 | (simp only [Int.reduceToNat] at ho5; rw [← Ny145.out] at ho5)); have n0_ := Aside0.mk (Kd.R_lower ho5 (below_size (by repeat (first | (with_reducible first | exact HB.out | apply below_alloc | apply pw_below_drewN | apply below_drew1) | exact HB.out)))); have n1_ := Aside0.mk (below_step (by repeat (first | (with_reducible first | exact HB.out | apply below_alloc | apply pw_below_drewN | apply below_drew1) | exact HB.out)) hb); clear HB; have HO147 := n0_; have HB := n1_; clear n0_ n1_; clear hb ho5; obtain ⟨Ao6, co6, eo6⟩ := Kd.R_slice HO147.out; subst eo6) | ((with_reducible refine gate_callee (f := 54) rfl ?_); refine goesL_ (some 8) rfl rfl Try.func54 (by kernel_rfl) rfl #[.slice Ao6 y145.length co6, .int .i64 a0] rfl (by (try simp only [List.map_toArray, List.map_cons, List.map_nil]); first | done | rfl | (simp only [List.length_drop, List.length_take]; rfl)) ?_; (with_reducible refine (slices_Repeat_int_int.calls _ _ y145 a0 t148 _ ?side1 ?side2 A3.out).mono ?_); (case side1 => repeat (first | exact (Kd.R_reads' HO147.out).2.2 | (with_reducible refine Kd.C_alloc ?_ _) | (with_reducible refine Kd.C_drewN ?_ _) | (with_reducible refine Kd.C_drew ?_))); (case side2 => exact (Kd.R_reads' HO147.out).2.1); rintro e w7 ⟨v149, rfl, ho0, hb⟩; refine ⟨_, rfl, ?_⟩; have n0_ := Aside0.mk (Kd.R_elder' (by (with_reducible repeat (first | apply Kd.R_alloc | apply Kd.R_drewN | apply Kd.R_drew)); exact HO147.out) (Kd.R_base ho0) hb); have n1_ := Aside0.mk (Kd.R_lower (Kd.R_new' ho0 (Kd.R_lt (by (with_reducible repeat (first | apply Kd.R_alloc | apply Kd.R_drewN | apply Kd.R_drew)); exact HO147.out))) (below_size (by repeat (first | (with_reducible first | exact HB.out | apply below_alloc | apply pw_below_drewN | apply below_drew1) | exact HB.out)))); have n2_ := Aside0.mk (below_step (by repeat (first | (with_reducible first | exact HB.out | apply below_alloc | apply pw_below_drewN | apply below_drew1) | exact HB.out)) hb); clear HO147; clear HB; have HO147 := n0_; have HO150 := n1_; have HB := n2_; clear n0_ n1_ n2_; (try clear hb); (try clear hb2); (try clear hk); (try clear hi); (try clear ho0)))
  go_ret
  exact ⟨_, by first | rfl | (simp [errW_none, errW_some] <;> rfl) | (simp [*, errW_none, errW_some] <;> rfl), by (with_reducible repeat (first | apply Kd.R_alloc | apply Kd.R_drewN | apply Kd.R_drew)); exact Kd.R_mono HO150.out (fun _ hk => trivial), by repeat (first | (with_reducible first | exact HB.out | apply below_alloc | apply pw_below_drewN | apply below_drew1) | exact HB.out)⟩

/-! ### slices_Clone_int64_int64: function 55 -/
def slices_Clone_int64_int64.f (l0 : List Int) : Option (List Int) := if l0.length < 17592186044416 then some l0 else none
theorem slices_Clone_int64_int64_nil : Aside0 (∀ (a : Option Addr) (n c : Nat) (w : World), Sem.run Try.prog (binOp .eql 23 (.slice a n c) (.slice none 0 0)) w = .ok (.bool a.isNone) w) := ⟨fun a n c w => Go.run_eql_slice_nil w 23 2 a n c Try.underlying23⟩
set_option maxHeartbeats 8000000 in
set_option maxRecDepth 100000 in
theorem slices_Clone_int64_int64.calls (A0 : Option Addr) (c0 : Nat) (l0 : List Int) (r : List Int) (w : World) (hr0 : Kd.C (Kd.int .i64) w A0 l0.length l0) (hc0 : l0.length ≤ c0) (h : slices_Clone_int64_int64.f l0 = some r) :
    Calls Try.prog 55 #[.slice A0 l0.length c0] w fun e w' => ∃ v0_ : Value, e = .returned (v0_) ∧ Kd.R (Kd.int .i64) 2 w' w.heap.size (fun _ => True) v0_ r ∧ Below w.heap.size w w' := by
  have HR0 := Aside0.mk hr0
  have HB := Aside0.mk (Below.refl w.heap.size w)
  unfold slices_Clone_int64_int64.f at h
  by_cases hl : l0.length < 17592186044416
  · rw [if_pos hl] at h
    obtain rfl := Option.some.inj h
    have LM := Aside0.mk hl
    clear h hr0 hl
    cases A0 with
    | none =>
      have hn := slices_Clone_int64_int64_nil.out none l0.length c0
      have hnil : l0 = [] := by
        rcases Nat.eq_zero_or_pos l0.length with h0 | h0
        · exact List.eq_nil_of_length_eq_zero h0
        · obtain ⟨ad, e, _⟩ := HR0.out.2.2 h0
          cases e
      have HN := Aside0.mk hnil
      clear hnil
      go_enter Try.func55, Try.ntmps55
      go_wp2
      go_ret
      exact ⟨.slice none 0 0, rfl, by rw [HN.out]; exact Kd.R_nil _ _ _ _ _, HB.out⟩
    | some ad =>
      have hn := slices_Clone_int64_int64_nil.out (some ad) l0.length c0
      go_enter Try.func55, Try.ntmps55
      go_wp2_with (first
        | ((with_reducible refine gate_dst (N := 5) rfl ?_); refine Kd.R_lit (Kd.int .i64) _ 2 ?hg (N := 5) ?hd (xs := []) (inner := []) (ok := fun _ => True) (okp := fun _ => True) ?hr ?hp (fun _ hk => hk) trivial (Below.refl _ _) (Nat.le_refl _) (by simp) ?_; (case hd => rfl); (case hg => rfl); (case hr => first | (go_simp; done) | (go_simp; rfl)); (case hp => exact (Reps.none _ _)); intro v1 w1 ho hb hg_ hnew_; clear hg_ hnew_; have HO1 := Aside0.mk ho; have HB1 := Aside0.mk hb; clear ho hb)
        | (at_builtin; refine Kd.R_append_rows (Kd.int .i64) (w0 := w) w.heap.size rfl (.tmp 5) (.tmp 6) 23 2 (.int .i64 0) 8 rfl Try.underlying23 info2 rfl (by decide) (by omega) v1 [] l0 _ _ _ (fun _ => True) (fun _ => False) rfl rfl HO1.out (Kd.C_below HR0.out HB1.out) (fun _ _ h => h) (fun _ h => h.elim) (fun _ _ => trivial) HB1.out (below_size HB1.out) (by have := LM.out; simp only [List.length_nil]; omega) ?_; intro v2 w2 ho hb hg hat; clear hg hat; have HO2 := Aside0.mk ho; have HB2 := Aside0.mk hb; clear ho hb))
      go_ret
      exact ⟨v2, rfl, HO2.out, HB2.out⟩
  · rw [if_neg hl] at h
    exact absurd h (by simp)


/-! ### relax_next: function 40 -/
def relax_next_go (had : List Int) : List S48 → Int → List Int → List Int → Option (List Int × List Int)
  | [], _, has, by_ => some (has, by_)
  | e :: r, i, has, by_ => if 0 ≤ e.f0 then (if e.f0 < (had.length : Int) then (if 0 ≤ e.f1 then (if e.f1 < (has.length : Int) then (if e.f1 < (by_.length : Int) then (if wrap64 (rd had e.f0 + e.f2) < rd has e.f1 then relax_next_go had r (i + 1) (has.set e.f1.toNat (wrap64 (rd had e.f0 + e.f2))) (by_.set e.f1.toNat i) else relax_next_go had r (i + 1) has by_) else none) else none) else none) else none) else none
def relax_next.f (l0 : List Int) (l1 : List S48) : Option (List Int × List Int) :=
  if l1.length ≤ 1000000 then (slices_Clone_int64_int64.f l0).bind fun has => (relax_row_int.f (l0.length : Int) (-1)).bind fun by_ => relax_next_go l0 l1 0 has by_ else none
structure relax_next_St (w W : World) (v6 v7 : Value) (has by_ : List Int) : Prop where
  below : Below w.heap.size w W
  has : Kd.R (Kd.int .i64) 2 W w.heap.size (fun k => some k ≠ v7.ownBlock) v6 has
  by_ : Kd.R (Kd.int .i64) 3 W w.heap.size (fun k => some k ≠ v6.ownBlock) v7 by_
theorem relax_next_St_below {w W W1 : World} {v6 v7 : Value} {has by_ : List Int} (h : relax_next_St w W v6 v7 has by_) (hb : Below W.heap.size W W1) : relax_next_St w W1 v6 v7 has by_ := ⟨below_step h.below hb, Kd.R_below h.has hb, Kd.R_below h.by_ hb⟩
theorem relax_next_St_put6 {w W : World} {g n c : Nat} {v7 : Value} {has by_ : List Int} (h : relax_next_St w W (.slice (some ⟨g, 0, none⟩) n c) v7 has by_) (hn : n = has.length) (hg : w.heap.size ≤ g) (a x : Int) : relax_next_St w (W.setCell ⟨g, a.toNat, none⟩ (.int .i64 x)) (.slice (some ⟨g, 0, none⟩) n c) v7 (has.set a.toNat x) by_ := by
  subst hn
  exact ⟨below_set h.below hg, (Kd.R_put h.has a x).1, Kd.R_far h.by_ (fun k hk => by simp [Value.ownBlock] at hk; exact hk) _⟩
theorem relax_next_St_put7 {w W : World} {g n c : Nat} {v6 : Value} {has by_ : List Int} (h : relax_next_St w W v6 (.slice (some ⟨g, 0, none⟩) n c) has by_) (hn : n = by_.length) (hg : w.heap.size ≤ g) (a x : Int) : relax_next_St w (W.setCell ⟨g, a.toNat, none⟩ (.int .i64 x)) v6 (.slice (some ⟨g, 0, none⟩) n c) has (by_.set a.toNat x) := by
  subst hn
  exact ⟨below_set h.below hg, Kd.R_far h.has (fun k hk => by simp [Value.ownBlock] at hk; exact hk) _, (Kd.R_put h.by_ a x).1⟩
set_option maxHeartbeats 8000000 in
set_option maxRecDepth 100000 in
theorem relax_next.calls (A0 : Option Addr) (c0 : Nat) (l0 : List Int) (A1 : Option Addr) (c1 : Nat) (l1 : List S48) (r1 : List Int) (r2 : List Int) (w : World) (hr0 : Kd.C (Kd.int .i64) w A0 l0.length l0) (hc0 : l0.length ≤ c0) (hr1 : Kd.C k48 w A1 l1.length l1) (hc1 : l1.length ≤ c1) (h : relax_next.f l0 l1 = some (r1, r2)) :
    Calls Try.prog 40 #[.slice A0 l0.length c0, .slice A1 l1.length c1] w fun e w' => ∃ v0_ v1_ : Value, e = .returned (.tuple #[v0_, v1_]) ∧ Kd.R (Kd.int .i64) 2 w' w.heap.size (fun k_ => (w.heap.size ≤ k_) ∧ some k_ ≠ (v1_ : Value).ownBlock) v0_ r1 ∧ Kd.R (Kd.int .i64) 3 w' w.heap.size (fun k_ => (w.heap.size ≤ k_) ∧ some k_ ≠ (v0_ : Value).ownBlock) v1_ r2 ∧ Below w.heap.size w w' := by
  unfold relax_next.f at h
  by_cases hn : l1.length ≤ 1000000
  case neg => rw [if_neg hn] at h; cases h
  rw [if_pos hn] at h
  obtain ⟨has0, hcl, h⟩ := Option.bind_eq_some_iff.mp h
  obtain ⟨by0, hrw, h⟩ := Option.bind_eq_some_iff.mp h
  have HR0 := Aside0.mk hr0
  have HR1 := Aside0.mk hr1
  have HC0 := Aside0.mk hc0
  have HCL := Aside0.mk hcl
  have HRW := Aside0.mk hrw
  have HH := Aside0.mk h
  have hm0 := Kd.C_max hr0
  clear h hr0 hr1 hcl hrw hc0 hc1
  have hu_ := Try.underlying48
  go_enter Try.func40, Try.ntmps40
  go_wp2_with (first
    | (go_at_call 55; refine (slices_Clone_int64_int64.calls A0 c0 l0 has0 _ HR0.out HC0.out HCL.out).mono ?_; rintro e w1 ⟨v6, rfl, h6, hb1⟩; have H6 := Aside0.mk h6; have HB1 := Aside0.mk hb1; clear h6 hb1)
    | (go_at_call 39; refine (relax_row_int.calls (l0.length : Int) (-1) by0 _ HRW.out).mono ?_; rintro e w2 ⟨v7, rfl, h7, hb2⟩; have HS := Aside0.mk (show relax_next_St w w2 v6 v7 has0 by0 from ⟨below_step HB1.out hb2, Kd.R_mono (Kd.R_elder H6.out h7 hb2) (fun k hk => hk.2), Kd.R_lower (Kd.R_mono (Kd.R_newR h7 H6.out) (fun k hk => hk.2)) HB1.out.size⟩); clear h7 hb2 HB1 H6; obtain ⟨A6, c6, rfl⟩ := Kd.R_slice HS.out.has; obtain ⟨A7, c7, rfl⟩ := Kd.R_slice HS.out.by_))
  go_loopg [18] l1.length (fun d v18 wr => ∃ (i : Nat) (has by_ : List Int), i + d = l1.length ∧ v18 = .int .i64 i ∧ Aside0 (relax_next_go l0 (l1.drop i) (i : Int) has by_ = some (r1, r2)) ∧ Aside0 (has.length = has0.length ∧ by_.length = by0.length) ∧ Aside0 (relax_next_St w wr (.slice A6 has0.length c6) (.slice A7 by0.length c7) has by_))
  case atStart => exact ⟨0, has0, by0, by omega, rfl, HH, ⟨rfl, rfl⟩, HS⟩
  case round =>
    clear HS HH
    obtain ⟨i, has, by_, hi, rfl, HG, HL, HS⟩ := hrel
    by_cases hlt : i < l1.length
    · have hltz : (i : Int) < (l1.length : Int) := by omega
      have HBr := Aside0.mk HS.out.below
      obtain ⟨ad1, e, hx0, hx1, hx2, hx3, hx4, hx5⟩ := at_T48 HR1.out (i : Int) (by omega) hltz
      cases e
      replace hx0 := (HBr.out.cell (World.block_lt_of_cell? w _ hx0)).trans hx0; simp only [Int.toNat_natCast] at hx0
      replace hx1 := (HBr.out.cell (World.block_lt_of_cell? w _ hx1)).trans hx1; simp only [Int.toNat_natCast] at hx1
      replace hx2 := (HBr.out.cell (World.block_lt_of_cell? w _ hx2)).trans hx2; simp only [Int.toNat_natCast] at hx2
      replace hx3 := (HBr.out.cell (World.block_lt_of_cell? w _ hx3)).trans hx3; simp only [Int.toNat_natCast] at hx3
      replace hx4 := (HBr.out.cell (World.block_lt_of_cell? w _ hx4)).trans hx4; simp only [Int.toNat_natCast] at hx4
      replace hx5 := (HBr.out.cell (World.block_lt_of_cell? w _ hx5)).trans hx5; simp only [Int.toNat_natCast] at hx5
      have hy : rd_T48 l1 (i : Int) = l1[i] := by show l1.getD _ _ = _; simp [List.getD_eq_getElem?_getD, List.getElem?_eq_getElem hlt]
      rw [hy] at hx0 hx1 hx2 hx3 hx4 hx5
      have hg := HG.out
      rw [List.drop_eq_getElem_cons hlt] at hg
      clear hy HG
      generalize l1[i] = s at hx0 hx1 hx2 hx3 hx4 hx5 hg
      unfold relax_next_go at hg
      by_cases c1 : 0 ≤ s.f0
      case neg => rw [if_neg c1] at hg; cases hg
      rw [if_pos c1] at hg
      by_cases c2 : s.f0 < (l0.length : Int)
      case neg => rw [if_neg c2] at hg; cases hg
      rw [if_pos c2] at hg
      by_cases c3 : 0 ≤ s.f1
      case neg => rw [if_neg c3] at hg; cases hg
      rw [if_pos c3] at hg
      by_cases c4 : s.f1 < (has.length : Int)
      case neg => rw [if_neg c4] at hg; cases hg
      rw [if_pos c4] at hg
      by_cases c5 : s.f1 < (by_.length : Int)
      case neg => rw [if_neg c5] at hg; cases hg
      rw [if_pos c5] at hg
      obtain ⟨ad0, e, hy0⟩ := Kd.at_int HR0.out s.f0 c1 c2
      cases e
      have hy0' : ∀ o : Obj, (wr.alloc o).cell? (ad0.add s.f0.toNat) = some (.int .i64 (rd l0 s.f0)) := fun o => ((below_alloc HBr.out o).cell (World.block_lt_of_cell? w _ hy0)).trans hy0
      clear hy0
      obtain ⟨g6, cap6, e6, hb6, hl6, _⟩ := Kd.R_form HS.out.has (by omega)
      obtain ⟨g7, cap7, e7, hb7, hl7, _⟩ := Kd.R_form HS.out.by_ (by omega)
      injection e6 with e61 e62 e63
      injection e7 with e71 e72 e73
      subst e61 e63 e71 e73
      have hl6' : s.f1 < (has0.length : Int) := by omega
      have hl7' : s.f1 < (by0.length : Int) := by omega
      have hne67 : g6 ≠ g7 := fun e => by have := HS.out.has.1 g6 (by simp [Value.ownBlock]); simp [Value.ownBlock] at this; exact this e
      have HE62 := Aside0.mk e62
      have HE72 := Aside0.mk e72
      clear e62 e72
      have hR6 := HS.out.has
      have hR7 := HS.out.by_
      rw [HE62.out] at hR6
      rw [HE72.out] at hR7
      have hq6 := (Kd.R_cell (0 : Int) hR6 s.f1 c3 c4).1
      have hq7 := (Kd.R_cell (0 : Int) hR7 s.f1 c3 c5).1
      have hf6 := (Kd.R_cell (0 : Int) hR6 s.f1 c3 c4).2
      have hf7 := (Kd.R_cell (0 : Int) hR7 s.f1 c3 c5).2
      have hq6' : ∀ o : Obj, (wr.alloc o).cell? ⟨g6, s.f1.toNat, none⟩ = some (.int .i64 (rd has s.f1)) := fun o => ((below_alloc (Below.refl wr.heap.size wr) o).cell (p := ⟨g6, s.f1.toNat, none⟩) hl6).trans hq6
      have hf6' : ∀ o : Obj, (wr.alloc o).frozen? ⟨g6, s.f1.toNat, none⟩ = false := fun o => ((below_alloc (Below.refl wr.heap.size wr) o).frozen (p := ⟨g6, s.f1.toNat, none⟩) hl6).trans hf6
      obtain ⟨z7, hz7⟩ : ∃ z7, z7 = Value.int .i64 (rd by_ s.f1) := ⟨_, rfl⟩
      have hq7' : ∀ o : Obj, (wr.alloc o).cell? ⟨g7, s.f1.toNat, none⟩ = some z7 := fun o => by rw [hz7]; exact ((below_alloc (Below.refl wr.heap.size wr) o).cell (p := ⟨g7, s.f1.toNat, none⟩) hl7).trans hq7
      have hf7' : ∀ o : Obj, (wr.alloc o).frozen? ⟨g7, s.f1.toNat, none⟩ = false := fun o => ((below_alloc (Below.refl wr.heap.size wr) o).frozen (p := ⟨g7, s.f1.toNat, none⟩) hl7).trans hf7
      have HR6 := Aside0.mk hR6
      have HR7 := Aside0.mk hR7
      clear hR6 hR7 hq6 hq7 hf6 hf7 hz7
      have HF := Aside0.mk hg
      clear hg
      go_wp2
      go_quiet (fail)
      generalize wrap64 (rd l0 s.f0 + s.f2) = x at HF ⊢
      by_cases c6 : x < rd has s.f1
      · have c6b := decide_eq_true c6
        go_wp2
        obtain ⟨W, hW⟩ : ∃ W, W = ((wr.alloc (.cells #[.int .i64 s.f0, .int .i64 s.f1, .int .i64 s.f2, .int .i64 s.f3.f0, .int .i64 s.f3.f1, .bool s.f4] 48 (0, 0))).drewN nq) := ⟨_, rfl⟩
        have hv1 : W.cell? ⟨wr.heap.size, 1, none⟩ = some (.int .i64 s.f1) := by rw [hW]; exact (blk_cell (blk_new wr _) 1).trans rfl
        have hw6 : W.cell? ⟨g6, s.f1.toNat, none⟩ = some (.int .i64 (rd has s.f1)) := by rw [hW]; exact hq6' _
        have hw7 : W.cell? ⟨g7, s.f1.toNat, none⟩ = some z7 := by rw [hW]; exact hq7' _
        have hfw6 : W.frozen? ⟨g6, s.f1.toNat, none⟩ = false := by rw [hW]; exact hf6' _
        have hfw7 : W.frozen? ⟨g7, s.f1.toNat, none⟩ = false := by rw [hW]; exact hf7' _
        have hn6 : wr.heap.size ≠ g6 := by omega
        have hn7 : wr.heap.size ≠ g7 := by omega
        have hbW : Below wr.heap.size wr W := by rw [hW]; exact pw_below_drewN (below_alloc (Below.refl _ _) _) nq
        rw [← hW]
        have HBW := Aside0.mk hbW
        clear hW hbW hq6' hq7' hf6' hf7' hy0'
        rw [if_pos c6] at HF
        have HFF := HF
        clear HF c6
        have HSW := relax_next_St_below HS.out HBW.out
        have HE1 := Aside0.mk (relax_next_St_put7 (relax_next_St_put6 HSW HE62.out hb6 s.f1 x) HE72.out hb7 s.f1 (i : Int))
        have HE2 := Aside0.mk (relax_next_St_put6 (relax_next_St_put7 HSW HE72.out hb7 s.f1 (i : Int)) HE62.out hb6 s.f1 x)
        have HLN := Aside0.mk (show (has.set s.f1.toNat x).length = has0.length ∧ (by_.set s.f1.toNat (i : Int)).length = by0.length by rw [List.length_set, List.length_set]; exact HL.out)
        have HGN := Aside0.mk (show relax_next_go l0 (l1.drop (i + 1)) ((i + 1 : Nat) : Int) (has.set s.f1.toNat x) (by_.set s.f1.toNat (i : Int)) = some (r1, r2) from HFF.out)
        clear HFF HSW HS
        go_region
        all_goals
          go_wp2_with (fail)
          go_roundg (gk - 1)
          case measure => omega
          case rel => exact ⟨i + 1, _, _, by omega, by go_num, HGN, HLN, ⟨by first | exact HE1.out | exact HE2.out | exact relax_next_St_below HE1.out (below_drew (Below.refl _ _)) | exact relax_next_St_below HE2.out (below_drew (Below.refl _ _))⟩⟩
      · rw [if_neg c6] at HF
        have c6b := decide_eq_false c6
        have HGN := Aside0.mk (show relax_next_go l0 (l1.drop (i + 1)) ((i + 1 : Nat) : Int) has by_ = some (r1, r2) from HF.out)
        clear HF c6
        go_wp2_with (fail)
        go_roundg (gk - 1)
        case measure => omega
        case rel => exact ⟨i + 1, _, _, by omega, by go_num, HGN, HL, ⟨relax_next_St_below HS.out (pw_below_drewN (below_alloc (Below.refl _ _) _) _)⟩⟩
    · have hltz : ¬ (i : Int) < (l1.length : Int) := by omega
      have hg := HG.out
      rw [List.drop_of_length_le (by omega)] at hg
      obtain ⟨h1, h2⟩ := Prod.mk.inj (Option.some.inj (show some (has, by_) = some (r1, r2) from hg))
      subst h1 h2
      clear hg HG
      go_wp2_with (fail)
      have h6 := HS.out.has
      have h7 := HS.out.by_
      exact bodyPost_ret (v := .tuple #[.slice A6 has0.length c6, .slice A7 by0.length c7]) (by simp [results, Try.results40, go_sem]) rfl ⟨_, _, rfl, Kd.R_mono (Kd.R_bound h6) (fun k hk => ⟨hk.2.1, hk.1⟩), Kd.R_mono (Kd.R_bound h7) (fun k hk => ⟨hk.2.1, hk.1⟩), HS.out.below⟩


/-! ### relax_Layers: function 21 -/
def relax_Layers.l0 : Nat → List (S48) → List (List Int) → List (List Int) → Int → Int → Option ((List (List Int)) × (List (List Int)))
  | 0, _, _, _, _, _ => none
  | k + 1, x1, x4, x5, x19, x20 => if x20 < x19 then (if 0 ≤ x20 then (if x20 < (x4.length : Int) then ((relax_next.f (rd_L7 x4 x20) x1).bind fun bt165 => (if x4.length < 5864062014805 then (if x5.length < 5864062014805 then (relax_Layers.l0 k x1 (x4 ++ [bt165.1]) (x5 ++ [bt165.2]) x19 (wrap64 (x20 + 1))) else (none)) else (none))) else (none)) else (none)) else (some (x4, x5))
def relax_Layers.f (k : Nat) (a0 : Int) (l1 : List (S48)) : Option ((List (List Int)) × (List (List Int))) := (relax_May.f a0 l1).bind fun t151 => (if t151 = true then ((relax_row_int64.f a0 0).bind fun t152 => ((relax_row_int.f a0 (-1)).bind fun t158 => (relax_Layers.l0 k l1 (([t152] : List (List Int))) (([t158] : List (List Int))) a0 0))) else (some (([] : List (List Int)), ([] : List (List Int)))))
theorem relax_Layers.mono_l : ∀ k, (∀ y0 y1 y2 y3 y4, LeO (relax_Layers.l0 k y0 y1 y2 y3 y4) (relax_Layers.l0 (k + 1) y0 y1 y2 y3 y4))
  | 0 => fun _ _ _ _ _ r h => by simp [relax_Layers.l0] at h
  | k + 1 => by
    have ih0 := relax_Layers.mono_l k
    · intro y0 y1 y2 y3 y4
      unfold relax_Layers.l0
      repeat' first
      | (with_reducible exact ih0 _ _ _ _ _)
      | (with_reducible exact LeO.refl _)
      | (with_reducible exact LeO.none _)
      | (with_reducible refine LeO.ite ?_ ?_)
      | (with_reducible refine LeO.bind ?_ (fun _ => ?_))
      | exact ih0 _ _ _ _ _
      | exact LeO.none _
      | refine LeO.ite ?_ ?_
      | refine LeO.bind ?_ (fun _ => ?_)
theorem relax_Layers.mono : ∀ a0 a1 k, LeO (relax_Layers.f k a0 a1) (relax_Layers.f (k + 1) a0 a1) := by
  intro a0 a1 k
  have ih0 := relax_Layers.mono_l k
  unfold relax_Layers.f
  repeat' first
      | (with_reducible exact ih0 _ _ _ _ _)
      | (with_reducible exact LeO.refl _)
      | (with_reducible exact LeO.none _)
      | (with_reducible refine LeO.ite ?_ ?_)
      | (with_reducible refine LeO.bind ?_ (fun _ => ?_))
      | exact ih0 _ _ _ _ _
      | exact LeO.none _
      | refine LeO.ite ?_ ?_
      | refine LeO.bind ?_ (fun _ => ?_)
set_option maxHeartbeats 8000000 in
set_option maxRecDepth 100000 in
theorem relax_Layers.calls (k : Nat) (a0 : Int) (A1 : Option Addr) (c1 : Nat) (l1 : List (S48)) (r1 : List (List Int)) (r2 : List (List Int)) (w : World) (hr1 : Kd.C k48 w A1 l1.length l1) (hc1 : l1.length ≤ c1) (h : relax_Layers.f k a0 l1 = some (r1, r2)) :
    Calls Try.prog 21 #[.int .i64 a0, .slice A1 l1.length c1] w fun e w' => ∃ v0_ v1_ : Value, e = .returned (.tuple #[v0_, v1_]) ∧ Kd.N (Kd.slice 2 (Kd.int .i64)) 23 w' w.heap.size (fun k_ => (w.heap.size ≤ k_) ∧ some k_ ≠ (v1_ : Value).ownBlock) v0_ r1 ∧ Kd.N (Kd.slice 3 (Kd.int .i64)) 37 w' w.heap.size (fun k_ => (w.heap.size ≤ k_) ∧ some k_ ≠ (v0_ : Value).ownBlock) v1_ r2 ∧ Below w.heap.size w w' := by
  have HR1 := Aside0.mk hr1
  have HC1 := Aside0.mk hc1
  clear hr1 hc1
  have HB := Aside0.mk (Below.refl w.heap.size w)
  have H : ((relax_May.f a0 l1).bind fun t151 => (if t151 = true then ((relax_row_int64.f a0 0).bind fun t152 => ((relax_row_int.f a0 (-1)).bind fun t158 => (relax_Layers.l0 k l1 (([t152] : List (List Int))) (([t158] : List (List Int))) a0 0))) else (some (([] : List (List Int)), ([] : List (List Int)))))) = some (r1, r2) := h
  clear h
  replace H := Option.bind_eq_some_iff.mp H
  obtain ⟨t151, A30, H⟩ := H
  replace H : (if t151 = true then ((relax_row_int64.f a0 0).bind fun t152 => ((relax_row_int.f a0 (-1)).bind fun t158 => (relax_Layers.l0 k l1 (([t152] : List (List Int))) (([t158] : List (List Int))) a0 0))) else (some (([] : List (List Int)), ([] : List (List Int))))) = some (r1, r2) := H
  have A3 := Aside0.mk A30
  clear A30
  by_cases c4 : t151 = true
  · subst c4
    have H1 : ((relax_row_int64.f a0 0).bind fun t152 => ((relax_row_int.f a0 (-1)).bind fun t158 => (relax_Layers.l0 k l1 (([t152] : List (List Int))) (([t158] : List (List Int))) a0 0))) = some (r1, r2) := by rw [if_pos rfl] at H; exact H
    clear H
    have H := H1
    clear H1
    replace H := Option.bind_eq_some_iff.mp H
    obtain ⟨t152, A50, H⟩ := H
    replace H : ((relax_row_int.f a0 (-1)).bind fun t158 => (relax_Layers.l0 k l1 (([t152] : List (List Int))) (([t158] : List (List Int))) a0 0)) = some (r1, r2) := H
    have A5 := Aside0.mk A50
    clear A50
    obtain ⟨y155, hy155⟩ : ∃ y_ : List (List Int), y_ = (([t152] : List (List Int))) := ⟨_, rfl⟩
    replace H : ((relax_row_int.f a0 (-1)).bind fun t158 => (relax_Layers.l0 k l1 y155 (([t158] : List (List Int))) a0 0)) = some (r1, r2) := by first | (rw [hy155]; with_reducible exact H) | (have H2_ := (Option.bind_some _ _).symm.trans H; rw [hy155]; with_reducible exact H2_) | (have H2_ := (Option.bind_some _ _).symm.trans H; with_reducible exact H2_) | with_reducible exact H | (rw [hy155]; exact H) | exact H
    have Ny155 := Aside0.mk hy155
    clear hy155
    replace H := Option.bind_eq_some_iff.mp H
    obtain ⟨t158, A60, H⟩ := H
    replace H : (relax_Layers.l0 k l1 y155 (([t158] : List (List Int))) a0 0) = some (r1, r2) := H
    have A6 := Aside0.mk A60
    clear A60
    obtain ⟨y161, hy161⟩ : ∃ y_ : List (List Int), y_ = (([t158] : List (List Int))) := ⟨_, rfl⟩
    replace H : (relax_Layers.l0 k l1 y155 y161 a0 0) = some (r1, r2) := by first | (rw [hy161]; with_reducible exact H) | (have H2_ := (Option.bind_some _ _).symm.trans H; rw [hy161]; with_reducible exact H2_) | (have H2_ := (Option.bind_some _ _).symm.trans H; with_reducible exact H2_) | with_reducible exact H | (rw [hy161]; exact H) | exact H
    have Ny161 := Aside0.mk hy161
    clear hy161
    have H' := Aside0.mk H
    clear H
    go_enter Try.func21, Try.ntmps21
    go_wp2_with (first | ((with_reducible refine gate_callee (f := 23) rfl ?_); refine goesL_ (some 11) rfl rfl Try.func23 (by kernel_rfl) rfl #[.int .i64 a0, .slice A1 l1.length c1] rfl (by (try simp only [List.map_toArray, List.map_cons, List.map_nil]); first | done | rfl | (simp only [List.length_drop, List.length_take]; rfl)) ?_; (with_reducible refine (relax_May.calls a0 _ _ l1 true _ ?side1 ?side2 A3.out).mono ?_); (case side1 => repeat (first | exact HR1.out | (with_reducible refine Kd.C_alloc ?_ _) | (with_reducible refine Kd.C_drewN ?_ _) | (with_reducible refine Kd.C_drew ?_))); (case side2 => exact HC1.out); rintro e w7 ⟨rfl, hb⟩; refine ⟨_, rfl, ?_⟩; have n0_ := Aside0.mk (below_step (by repeat (first | (with_reducible first | exact HB.out | apply below_alloc | apply pw_below_drewN | apply below_drew1) | exact HB.out)) hb); clear HB; have HB := n0_; clear n0_; (try clear hb); (try clear hb2); (try clear hk); (try clear hi)) | ((with_reducible refine gate_callee (f := 38) rfl ?_); refine goesL_ (some 14) rfl rfl Try.func38 (by kernel_rfl) rfl #[.int .i64 a0, .int .i64 0] rfl (by (try simp only [List.map_toArray, List.map_cons, List.map_nil]); first | done | rfl | (simp only [List.length_drop, List.length_take]; rfl)) ?_; (with_reducible refine (relax_row_int64.calls a0 0 t152 _ A5.out).mono ?_); rintro e w8 ⟨v153, rfl, ho0, hb⟩; refine ⟨_, rfl, ?_⟩; have n0_ := Aside0.mk (Kd.R_lower (Kd.R_newM (M := fun k_ => (w.heap.size ≤ k_)) ho0 (below_size (by repeat (first | (with_reducible first | exact HB.out | apply below_alloc | apply pw_below_drewN | apply below_drew1) | exact HB.out))) (fun k_ h_ => h_)) (below_size (by repeat (first | (with_reducible first | exact HB.out | apply below_alloc | apply pw_below_drewN | apply below_drew1) | exact HB.out)))); have n1_ := Aside0.mk (below_step (by repeat (first | (with_reducible first | exact HB.out | apply below_alloc | apply pw_below_drewN | apply below_drew1) | exact HB.out)) hb); clear HB; have HO154 := n0_; have HB := n1_; clear n0_ n1_; (try clear hb); (try clear hb2); (try clear hk); (try clear hi); (try clear ho0); obtain ⟨Ao9, co9, eo9⟩ := Kd.R_slice HO154.out; subst eo9) | ((with_reducible refine gate_dst (N := 15) rfl ?_); refine Kd.N_lit (Kd.slice 2 (Kd.int .i64)) _ 23 ?hg (N' := 15) ?hd (xs := ([t152] : List (List Int))) (inner := [.slice Ao9 t152.length co9]) (ok := (fun k_ => (w.heap.size ≤ k_))) (okp := (fun k_ => (w.heap.size ≤ k_))) ?hr ?hp (fun _ hk => hk) ((show ∀ k_, w8.heap.size ≤ k_ → (fun k_ => (w.heap.size ≤ k_)) k_ from fun k_ hk => (Nat.le_trans (below_size (by repeat (first | (with_reducible first | exact HB.out | apply below_alloc | apply pw_below_drewN | apply below_drew1) | exact HB.out))) hk)) _ (Nat.le_refl _)) (Below.refl _ _) (Nat.le_refl _) (by simp) ?_; (case hd => rfl); (case hg => rfl); (case hr => first | (go_simp; done) | (go_simp; rfl)); (case hp => exact (Reps.one (show Kd.FK (Kd.slice 2 (Kd.int .i64)) _ _ t152 [.slice Ao9 t152.length co9] from (Kd.FK_slice_mk (Kd.R_reads' (Kd.R_mono (ok' := (fun k_ => (w.heap.size ≤ k_))) (HO154.out) (fun k_ hk => hk.1))).2.1 (Kd.R_F (Kd.R_mono (ok' := (fun k_ => (w.heap.size ≤ k_))) (HO154.out) (fun k_ hk => hk.1))))) (Reps.none _ _))); intro v156 w10 ho11 hb hg_ hnew_; clear hg_ hnew_; (first | rw [← Ny155.out] at ho11 | (simp only [Int.reduceToNat] at ho11; rw [← Ny155.out] at ho11)); have n0_ := Aside0.mk (Kd.N_lower ho11 (below_size (by repeat (first | (with_reducible first | exact HB.out | apply below_alloc | apply pw_below_drewN | apply below_drew1) | exact HB.out)))); have n1_ := Aside0.mk (below_step (by repeat (first | (with_reducible first | exact HB.out | apply below_alloc | apply pw_below_drewN | apply below_drew1) | exact HB.out)) hb); clear HB; clear HO154; have HO157 := n0_; have HB := n1_; clear n0_ n1_; clear hb ho11) | ((with_reducible refine gate_callee (f := 39) rfl ?_); refine goesL_ (some 17) rfl rfl Try.func39 (by kernel_rfl) rfl #[.int .i64 a0, .int .i64 (-1)] rfl (by (try simp only [List.map_toArray, List.map_cons, List.map_nil]); first | done | rfl | (simp only [List.length_drop, List.length_take]; rfl)) ?_; (with_reducible refine (relax_row_int.calls a0 (-1) t158 _ A6.out).mono ?_); rintro e w12 ⟨v159, rfl, ho0, hb⟩; refine ⟨_, rfl, ?_⟩; have n0_ := Aside0.mk (Kd.N_elder' (by (with_reducible repeat (first | apply Kd.N_alloc | apply Kd.N_drewN | apply Kd.N_drew)); exact HO157.out) (Kd.R_base ho0) hb); have n1_ := Aside0.mk (Kd.R_lower (Kd.R_newM (M := fun k_ => (w.heap.size ≤ k_)) ho0 (below_size (by repeat (first | (with_reducible first | exact HB.out | apply below_alloc | apply pw_below_drewN | apply below_drew1) | exact HB.out))) (fun k_ h_ => h_)) (below_size (by repeat (first | (with_reducible first | exact HB.out | apply below_alloc | apply pw_below_drewN | apply below_drew1) | exact HB.out)))); have n2_ := Aside0.mk (below_step (by repeat (first | (with_reducible first | exact HB.out | apply below_alloc | apply pw_below_drewN | apply below_drew1) | exact HB.out)) hb); clear HO157; clear HB; have HO157 := n0_; have HO160 := n1_; have HB := n2_; clear n0_ n1_ n2_; (try clear hb); (try clear hb2); (try clear hk); (try clear hi); (try clear ho0); obtain ⟨Ao13, co13, eo13⟩ := Kd.R_slice HO160.out; subst eo13) | ((with_reducible refine gate_dst (N := 18) rfl ?_); refine Kd.N_lit (Kd.slice 3 (Kd.int .i64)) _ 37 ?hg (N' := 18) ?hd (xs := ([t158] : List (List Int))) (inner := [.slice Ao13 t158.length co13]) (ok := (fun k_ => (w.heap.size ≤ k_) ∧ some k_ ≠ (v156 : Value).ownBlock)) (okp := (fun k_ => (w.heap.size ≤ k_) ∧ some k_ ≠ (v156 : Value).ownBlock)) ?hr ?hp (fun _ hk => hk) ((show ∀ k_, w12.heap.size ≤ k_ → (fun k_ => (w.heap.size ≤ k_) ∧ some k_ ≠ (v156 : Value).ownBlock) k_ from fun k_ hk => ⟨(Nat.le_trans (below_size (by repeat (first | (with_reducible first | exact HB.out | apply below_alloc | apply pw_below_drewN | apply below_drew1) | exact HB.out))) hk), Kd.fresh' (Kd.N_lt (by (with_reducible repeat (first | apply Kd.N_alloc | apply Kd.N_drewN | apply Kd.N_drew)); exact HO157.out)) k_ hk⟩) _ (Nat.le_refl _)) (Below.refl _ _) (Nat.le_refl _) (by simp) ?_; (case hd => rfl); (case hg => rfl); (case hr => first | (go_simp; done) | (go_simp; rfl)); (case hp => exact (Reps.one (show Kd.FK (Kd.slice 3 (Kd.int .i64)) _ _ t158 [.slice Ao13 t158.length co13] from (Kd.FK_slice_mk (Kd.R_reads' (Kd.R_mono (ok' := (fun k_ => (w.heap.size ≤ k_) ∧ some k_ ≠ (v156 : Value).ownBlock)) (Kd.R_apart' (HO160.out) (Kd.N_typed HO157.out) (by decide)) (fun k_ hk => ⟨hk.1.1, hk.2⟩))).2.1 (Kd.R_F (Kd.R_mono (ok' := (fun k_ => (w.heap.size ≤ k_) ∧ some k_ ≠ (v156 : Value).ownBlock)) (Kd.R_apart' (HO160.out) (Kd.N_typed HO157.out) (by decide)) (fun k_ hk => ⟨hk.1.1, hk.2⟩))))) (Reps.none _ _))); intro v162 w14 ho15 hb hg_ hnew_; clear hg_ hnew_; (first | rw [← Ny161.out] at ho15 | (simp only [Int.reduceToNat] at ho15; rw [← Ny161.out] at ho15)); have n0_ := Aside0.mk (Kd.N_elder' (by (with_reducible repeat (first | apply Kd.N_alloc | apply Kd.N_drewN | apply Kd.N_drew)); exact HO157.out) (Kd.N_base ho15) hb); have n1_ := Aside0.mk (Kd.N_lower ho15 (below_size (by repeat (first | (with_reducible first | exact HB.out | apply below_alloc | apply pw_below_drewN | apply below_drew1) | exact HB.out)))); have n2_ := Aside0.mk (below_step (by repeat (first | (with_reducible first | exact HB.out | apply below_alloc | apply pw_below_drewN | apply below_drew1) | exact HB.out)) hb); clear HO157; clear HB; clear HO160; have HO157 := n0_; have HO163 := n1_; have HB := n2_; clear n0_ n1_ n2_; clear hb ho15))
    go_loopg [4, 5, 20] k (fun kq v4 v5 v20 w' => ∃ (x4_1 : List (List Int)) (x5_1 : List (List Int)) (x20_1 : Int), v20 = .int .i64 x20_1 ∧ Aside0 (relax_Layers.l0 kq l1 x4_1 x5_1 a0 x20_1 = some (r1, r2)) ∧ Aside0 (kq ≤ k) ∧ Aside0 (Kd.N (Kd.slice 2 (Kd.int .i64)) 23 w' w.heap.size (fun k_ => (w.heap.size ≤ k_) ∧ some k_ ≠ (v5 : Value).ownBlock) v4 x4_1) ∧ Aside0 (Kd.N (Kd.slice 3 (Kd.int .i64)) 37 w' w.heap.size (fun k_ => (w.heap.size ≤ k_) ∧ some k_ ≠ (v4 : Value).ownBlock) v5 x5_1) ∧ Aside0 (Below w.heap.size w w'))
    case atStart => exact ⟨(y155), (y161), (0), (by first | rfl | (simp; done) | (simp [*]; done)), H', ⟨Nat.le_refl _⟩, ⟨by (with_reducible repeat (first | apply Kd.N_alloc | apply Kd.N_drewN | apply Kd.N_drew)); exact Kd.N_mono HO157.out (fun _ hk => ⟨hk.1.1, hk.2⟩)⟩, ⟨by (with_reducible repeat (first | apply Kd.N_alloc | apply Kd.N_drewN | apply Kd.N_drew)); exact HO163.out⟩, ⟨by repeat (first | (with_reducible first | exact HB.out | apply below_alloc | apply pw_below_drewN | apply below_drew1) | exact HB.out)⟩⟩
    case round =>
      clear H'
      try clear c1
      try clear c2
      try clear p2
      try clear c3
      try clear c4
      obtain ⟨x4_1, x5_1, x20_1, rfl, HA, HK1, HO_4, HO_5, HB⟩ := hrel
      cases gk with
      | zero => exact absurd HA.out (by simp [relax_Layers.l0])
      | succ k1 =>
        have H := HA.out
        clear HA
        simp only [relax_Layers.l0] at H
        by_cases c16 : x20_1 < a0
        · rw [if_pos c16] at H
          have c16b0 : decide (x20_1 < a0) = true := decide_eq_true c16
          clear c16
          by_cases c17 : 0 ≤ x20_1
          · rw [if_pos c17] at H
            have c17b0 : decide (0 ≤ x20_1) = true := decide_eq_true c17
            clear c17
            by_cases c18 : x20_1 < (x4_1.length : Int)
            · rw [if_pos c18] at H
              have c18b0 : decide (x20_1 < (x4_1.length : Int)) = true := decide_eq_true c18
              clear c18
              replace H := Option.bind_eq_some_iff.mp H
              obtain ⟨⟨t165, t166⟩, A190, H⟩ := H
              replace H : (if x4_1.length < 5864062014805 then (if x5_1.length < 5864062014805 then (relax_Layers.l0 k1 l1 (x4_1 ++ [t165]) (x5_1 ++ [t166]) a0 (wrap64 (x20_1 + 1))) else (none)) else (none)) = some (r1, r2) := H
              have A19 := Aside0.mk A190
              clear A190
              by_cases c20 : x4_1.length < 5864062014805
              · rw [if_pos c20] at H
                have LMc20 := Aside0.mk c20
                clear c20
                obtain ⟨y171, hy171⟩ : ∃ y_ : List (List Int), y_ = (x4_1 ++ [t165]) := ⟨_, rfl⟩
                replace H : (if x5_1.length < 5864062014805 then (relax_Layers.l0 k1 l1 y171 (x5_1 ++ [t166]) a0 (wrap64 (x20_1 + 1))) else (none)) = some (r1, r2) := by first | (rw [hy171]; with_reducible exact H) | (have H2_ := (Option.bind_some _ _).symm.trans H; rw [hy171]; with_reducible exact H2_) | (have H2_ := (Option.bind_some _ _).symm.trans H; with_reducible exact H2_) | with_reducible exact H | (rw [hy171]; exact H) | exact H
                have Ny171 := Aside0.mk hy171
                clear hy171
                by_cases c21 : x5_1.length < 5864062014805
                · rw [if_pos c21] at H
                  have LMc21 := Aside0.mk c21
                  clear c21
                  obtain ⟨y174, hy174⟩ : ∃ y_ : List (List Int), y_ = (x5_1 ++ [t166]) := ⟨_, rfl⟩
                  replace H : (relax_Layers.l0 k1 l1 y171 y174 a0 (wrap64 (x20_1 + 1))) = some (r1, r2) := by first | (rw [hy174]; with_reducible exact H) | (have H2_ := (Option.bind_some _ _).symm.trans H; rw [hy174]; with_reducible exact H2_) | (have H2_ := (Option.bind_some _ _).symm.trans H; with_reducible exact H2_) | with_reducible exact H | (rw [hy174]; exact H) | exact H
                  have Ny174 := Aside0.mk hy174
                  clear hy174
                  have H' := Aside0.mk H
                  clear H
                  obtain ⟨Ao22, co22, eo22⟩ := Kd.N_slice HO_4.out
                  subst eo22
                  have p164 : 0 ≤ (x20_1 : Int) := of_decide_eq_true (by first | (with_reducible assumption) | assumption)
                  have q164 : x20_1 < (x4_1.length : Int) := of_decide_eq_true (by first | (with_reducible assumption) | assumption)
                  obtain ⟨ad164, A164_0, c164_0, e164, hx164_0, hl164_0, hi164_0⟩ := at_L7 (Kd.N_reads' HO_4.out).2.2 x20_1 p164 q164
                  cases e164
                  obtain ⟨ce164, hce164, hMe164, hcc164⟩ := Kd.N_get HO_4.out [] x20_1 p164 (by first | exact q164 | exact of_decide_eq_true (by first | (with_reducible assumption) | assumption) | (have e_ := (Kd.N_reads' HO_4.out).1; omega))
                  obtain ⟨ua164_0, uc164_0, rfl, ul164_0, ge164_0⟩ := Kd.FK_slice_open hMe164
                  have hv164_0 := hcc164 0 _ rfl
                  rw [Nat.add_zero, show ((Kd.slice 2 (Kd.int .i64))).sz = 1 from rfl, Nat.mul_one] at hv164_0
                  replace hv164_0 := Option.some.inj (hv164_0.symm.trans hx164_0)
                  injection hv164_0 with hva_ hvn_ hvc_
                  rw [hva_] at ge164_0
                  rw [hvc_] at ul164_0
                  have HL164_0 := Aside0.mk (show Kd.V (Kd.int .i64) 2 _ w.heap.size _ _ (rd_L7 x4_1 x20_1) from Kd.V_mk ul164_0 ge164_0)
                  clear hva_ hvn_ hvc_ ge164_0 ul164_0
                  clear hcc164 hce164
                  have HR164_0 := Aside0.mk hi164_0
                  have HC164_0 := Aside0.mk hl164_0
                  clear hi164_0 hl164_0
                  replace p164 := eq_true p164
                  replace q164 := eq_true q164
                  go_wp2_with (first | ((with_reducible refine gate_callee (f := 40) rfl ?_); refine goesL_ (some 29) rfl rfl Try.func40 (by kernel_rfl) rfl #[.slice A164_0 (rd_L7 x4_1 x20_1).length c164_0, .slice A1 l1.length c1] rfl (by (try simp only [List.map_toArray, List.map_cons, List.map_nil]); first | done | rfl | (simp only [List.length_drop, List.length_take]; rfl)) ?_; (with_reducible refine (relax_next.calls _ _ (rd_L7 x4_1 x20_1) _ _ l1 t165 t166 _ ?side1 ?side2 ?side3 ?side4 A19.out).mono ?_); (case side1 => repeat (first | exact (by repeat (first | (with_reducible exact HR164_0.out) | (with_reducible refine Kd.C_alloc ?_ _) | (with_reducible refine Kd.C_drewN ?_ _) | (with_reducible refine Kd.C_drew ?_) | exact HR164_0.out)) | (with_reducible refine Kd.C_alloc ?_ _) | (with_reducible refine Kd.C_drewN ?_ _) | (with_reducible refine Kd.C_drew ?_))); (case side2 => exact HC164_0.out); (case side3 => repeat (first | exact (Kd.C_below HR1.out HB.out) | (with_reducible refine Kd.C_alloc ?_ _) | (with_reducible refine Kd.C_drewN ?_ _) | (with_reducible refine Kd.C_drew ?_))); (case side4 => exact HC1.out); rintro e w23 ⟨v167, v169, rfl, ho0, ho1, hb⟩; refine ⟨_, rfl, ?_⟩; have n0_ := Aside0.mk (Kd.N_mono (Kd.N_told (Kd.N_told (Kd.N_old (by (with_reducible repeat (first | apply Kd.N_alloc | apply Kd.N_drewN | apply Kd.N_drew)); exact HO_4.out) hb) (Kd.R_base ho0)) (Kd.R_base ho1)) (fun _ h_ => h_.1)); have n1_ := Aside0.mk (Kd.N_mono (Kd.N_told (Kd.N_told (Kd.N_old (by (with_reducible repeat (first | apply Kd.N_alloc | apply Kd.N_drewN | apply Kd.N_drew)); exact HO_5.out) hb) (Kd.R_base ho0)) (Kd.R_base ho1)) (fun _ h_ => h_.1)); have n2_ := Aside0.mk (Kd.V_mono (Kd.V_told (Kd.V_told (Kd.V_old (by (with_reducible repeat (first | apply Kd.V_alloc | apply Kd.V_drewN | apply Kd.V_drew)); exact HL164_0.out) hb) (Kd.R_base ho0)) (Kd.R_base ho1)) (fun _ h_ => h_.1)); have n3_ := Aside0.mk (Kd.R_lower (Kd.R_newM (M := fun k_ => (w.heap.size ≤ k_)) ho0 (below_size (by repeat (first | (with_reducible first | exact HB.out | apply below_alloc | apply pw_below_drewN | apply below_drew1) | exact HB.out))) (fun k_ h_ => h_)) (below_size (by repeat (first | (with_reducible first | exact HB.out | apply below_alloc | apply pw_below_drewN | apply below_drew1) | exact HB.out)))); have n4_ := Aside0.mk (Kd.R_lower (Kd.R_newM (M := fun k_ => (w.heap.size ≤ k_)) ho1 (below_size (by repeat (first | (with_reducible first | exact HB.out | apply below_alloc | apply pw_below_drewN | apply below_drew1) | exact HB.out))) (fun k_ h_ => h_)) (below_size (by repeat (first | (with_reducible first | exact HB.out | apply below_alloc | apply pw_below_drewN | apply below_drew1) | exact HB.out)))); have n5_ := Aside0.mk (Kd.C_below (by repeat (first | (with_reducible exact HR164_0.out) | (with_reducible refine Kd.C_alloc ?_ _) | (with_reducible refine Kd.C_drewN ?_ _) | (with_reducible refine Kd.C_drew ?_) | exact HR164_0.out)) hb); have n6_ := Aside0.mk (below_step (by repeat (first | (with_reducible first | exact HB.out | apply below_alloc | apply pw_below_drewN | apply below_drew1) | exact HB.out)) hb); clear HO_4; clear HO_5; clear HL164_0; clear HR164_0; clear HB; have HO_4 := n0_; have HO_5 := n1_; have HL164_0 := n2_; have HO168 := n3_; have HO170 := n4_; have HR164_0 := n5_; have HB := n6_; clear n0_ n1_ n2_ n3_ n4_ n5_ n6_; (try clear hb); (try clear hb2); (try clear hk); (try clear hi); (try clear ho0); (try clear ho1); obtain ⟨Ao25, co25, eo25⟩ := Kd.R_slice HO168.out; subst eo25) | ((with_reducible refine gate_builtin (b := .append) (xs := #[.tmp 32, .tmp 34]) rfl ?_); at_builtin; refine Kd.N_append (Kd.slice 2 (Kd.int .i64)) (w0 := w) w.heap.size rfl (.tmp 32) (.tmp 34) 30 23 (.slice none 0 0) 24 rfl Try.underlying30 info23 rfl (by decide) (by omega) (.slice (some ad164) x4_1.length co22) x4_1 t165 [.slice Ao25 t165.length co25] (fun k_ => (w.heap.size ≤ k_) ∧ some k_ ≠ (u5 : Value).ownBlock ∧ some k_ ≠ (v169 : Value).ownBlock) (fun k_ => ((fun k_ => (w.heap.size ≤ k_) ∧ some k_ ≠ (u5 : Value).ownBlock ∧ some k_ ≠ (v169 : Value).ownBlock)) k_ ∧ some k_ ≠ (.slice (some ad164) x4_1.length co22 : Value).ownBlock) rfl rfl ?aP (fun _ hk => hk) ?aF ?aO ?aB ?aS ?aL ?_; (case aP => exact (Kd.FK_slice_mk (Kd.R_reads' (Kd.R_mono (ok' := (fun k_ => ((fun k_ => (w.heap.size ≤ k_) ∧ some k_ ≠ (u5 : Value).ownBlock ∧ some k_ ≠ (v169 : Value).ownBlock)) k_ ∧ some k_ ≠ (.slice (some ad164) x4_1.length co22 : Value).ownBlock)) (Kd.R_apart' (Kd.R_apart' (Kd.R_apart' (HO168.out) (Kd.N_typed HO_5.out) (by decide)) (Kd.R_typed HO170.out) (by decide)) (Kd.N_typed HO_4.out) (by decide)) (fun k_ hk => ⟨⟨hk.1.1.1.1, ⟨hk.1.1.2, hk.1.2⟩⟩, hk.2⟩))).2.1 (Kd.R_F (Kd.R_mono (ok' := (fun k_ => ((fun k_ => (w.heap.size ≤ k_) ∧ some k_ ≠ (u5 : Value).ownBlock ∧ some k_ ≠ (v169 : Value).ownBlock)) k_ ∧ some k_ ≠ (.slice (some ad164) x4_1.length co22 : Value).ownBlock)) (Kd.R_apart' (Kd.R_apart' (Kd.R_apart' (HO168.out) (Kd.N_typed HO_5.out) (by decide)) (Kd.R_typed HO170.out) (by decide)) (Kd.N_typed HO_4.out) (by decide)) (fun k_ hk => ⟨⟨hk.1.1.1.1, ⟨hk.1.1.2, hk.1.2⟩⟩, hk.2⟩))))); (case aB => exact (by repeat (first | (with_reducible first | exact HB.out | apply below_alloc | apply pw_below_drewN | apply below_drew1) | exact HB.out))); (case aF => exact (fun k_ hk => ⟨(Nat.le_trans (below_size (by repeat (first | (with_reducible first | exact HB.out | apply below_alloc | apply pw_below_drewN | apply below_drew1) | exact HB.out))) hk), Kd.fresh' (Kd.N_lt (by (with_reducible repeat (first | apply Kd.N_alloc | apply Kd.N_drewN | apply Kd.N_drew)); exact HO_5.out)) k_ hk, Kd.fresh' (Kd.R_lt (by (with_reducible repeat (first | apply Kd.R_alloc | apply Kd.R_drewN | apply Kd.R_drew)); exact HO170.out)) k_ hk⟩)); (case aO => exact (by (with_reducible repeat (first | apply Kd.N_alloc | apply Kd.N_drewN | apply Kd.N_drew)); exact Kd.N_mono HO_4.out (fun _ hk => ⟨hk.1.1.1, ⟨hk.1.1.2, hk.2⟩⟩))); (case aS => exact (below_size (by repeat (first | (with_reducible first | exact HB.out | apply below_alloc | apply pw_below_drewN | apply below_drew1) | exact HB.out)))); (case aL => have := LMc20.out; omega); intro v172 w24 ho hb hg hat; rw [← Ny171.out] at ho; have n0_ := Aside0.mk (Kd.N_afterv (ok := (fun k_ => (w.heap.size ≤ k_) ∧ some k_ ≠ (.slice Ao25 t165.length co25 : Value).ownBlock ∧ some k_ ≠ (v169 : Value).ownBlock)) (by (with_reducible repeat (first | apply Kd.N_alloc | apply Kd.N_drewN | apply Kd.N_drew)); exact Kd.N_mono HO_5.out (fun _ hk => ⟨⟨hk.1.1.1, ⟨hk.1.2, hk.2⟩⟩, hk.1.1.2⟩)) hg hat); have n1_ := Aside0.mk (Kd.V_afterv (ok := (fun k_ => (w.heap.size ≤ k_) ∧ some k_ ≠ (u5 : Value).ownBlock ∧ some k_ ≠ (.slice Ao25 t165.length co25 : Value).ownBlock ∧ some k_ ≠ (v169 : Value).ownBlock)) (by (with_reducible repeat (first | apply Kd.V_alloc | apply Kd.V_drewN | apply Kd.V_drew)); exact Kd.V_mono HL164_0.out (fun _ hk => ⟨⟨hk.1.1.1.1, ⟨hk.1.1.1.2, ⟨hk.1.2, hk.2⟩⟩⟩, hk.1.1.2⟩)) hg hat); have n2_ := Aside0.mk (Kd.R_over' (by (with_reducible repeat (first | apply Kd.R_alloc | apply Kd.R_drewN | apply Kd.R_drew)); exact HO170.out) (Kd.N_typed (by (with_reducible repeat (first | apply Kd.N_alloc | apply Kd.N_drewN | apply Kd.N_drew)); exact HO_4.out)) (by decide) hg); have n3_ := Aside0.mk (hb); have n4_ := Aside0.mk (ho); clear HO_5; clear HL164_0; clear HO170; clear HB; clear HO_4; clear HO168; have HO_5 := n0_; have HL164_0 := n1_; have HO170 := n2_; have HB := n3_; have HO173 := n4_; clear n0_ n1_ n2_ n3_ n4_; clear ho hb hg hat; obtain ⟨Ao27, co27, eo27⟩ := Kd.R_slice HO170.out; subst eo27) | ((with_reducible refine gate_builtin (b := .append) (xs := #[.tmp 36, .tmp 38]) rfl ?_); at_builtin; refine Kd.N_append (Kd.slice 3 (Kd.int .i64)) (w0 := w) w.heap.size rfl (.tmp 36) (.tmp 38) 31 37 (.slice none 0 0) 24 rfl Try.underlying31 info37 rfl (by decide) (by omega) u5 x5_1 t166 [.slice Ao27 t166.length co27] (fun k_ => (w.heap.size ≤ k_) ∧ some k_ ≠ (v172 : Value).ownBlock) (fun k_ => ((fun k_ => (w.heap.size ≤ k_) ∧ some k_ ≠ (v172 : Value).ownBlock)) k_ ∧ some k_ ≠ (u5 : Value).ownBlock) rfl rfl ?aP (fun _ hk => hk) ?aF ?aO ?aB ?aS ?aL ?_; (case aP => exact (Kd.FK_slice_mk (Kd.R_reads' (Kd.R_mono (ok' := (fun k_ => ((fun k_ => (w.heap.size ≤ k_) ∧ some k_ ≠ (v172 : Value).ownBlock)) k_ ∧ some k_ ≠ (u5 : Value).ownBlock)) (Kd.R_apart' (Kd.R_apart' (HO170.out) (Kd.N_typed HO173.out) (by decide)) (Kd.N_typed HO_5.out) (by decide)) (fun k_ hk => ⟨⟨hk.1.1.1, hk.1.2⟩, hk.2⟩))).2.1 (Kd.R_F (Kd.R_mono (ok' := (fun k_ => ((fun k_ => (w.heap.size ≤ k_) ∧ some k_ ≠ (v172 : Value).ownBlock)) k_ ∧ some k_ ≠ (u5 : Value).ownBlock)) (Kd.R_apart' (Kd.R_apart' (HO170.out) (Kd.N_typed HO173.out) (by decide)) (Kd.N_typed HO_5.out) (by decide)) (fun k_ hk => ⟨⟨hk.1.1.1, hk.1.2⟩, hk.2⟩))))); (case aB => exact (by repeat (first | (with_reducible first | exact HB.out | apply below_alloc | apply pw_below_drewN | apply below_drew1) | exact HB.out))); (case aF => exact (fun k_ hk => ⟨(Nat.le_trans (below_size (by repeat (first | (with_reducible first | exact HB.out | apply below_alloc | apply pw_below_drewN | apply below_drew1) | exact HB.out))) hk), Kd.fresh' (Kd.N_lt (by (with_reducible repeat (first | apply Kd.N_alloc | apply Kd.N_drewN | apply Kd.N_drew)); exact HO173.out)) k_ hk⟩)); (case aO => exact (by (with_reducible repeat (first | apply Kd.N_alloc | apply Kd.N_drewN | apply Kd.N_drew)); exact Kd.N_mono HO_5.out (fun _ hk => ⟨hk.1.1, hk.2⟩))); (case aS => exact (below_size (by repeat (first | (with_reducible first | exact HB.out | apply below_alloc | apply pw_below_drewN | apply below_drew1) | exact HB.out)))); (case aL => have := LMc21.out; omega); intro v175 w26 ho hb hg hat; rw [← Ny174.out] at ho; have n0_ := Aside0.mk (Kd.V_afterv (ok := (fun k_ => (w.heap.size ≤ k_) ∧ some k_ ≠ (.slice Ao27 t166.length co27 : Value).ownBlock ∧ some k_ ≠ (v172 : Value).ownBlock)) (by (with_reducible repeat (first | apply Kd.V_alloc | apply Kd.V_drewN | apply Kd.V_drew)); exact Kd.V_mono HL164_0.out (fun _ hk => ⟨⟨hk.1.1, ⟨hk.1.2.2.2, hk.2⟩⟩, hk.1.2.1⟩)) hg hat); have n1_ := Aside0.mk (Kd.N_afterv (ok := (fun k_ => (w.heap.size ≤ k_) ∧ some k_ ≠ (.slice Ao27 t166.length co27 : Value).ownBlock)) (by (with_reducible repeat (first | apply Kd.N_alloc | apply Kd.N_drewN | apply Kd.N_drew)); exact Kd.N_mono HO173.out (fun _ hk => ⟨⟨hk.1, hk.2.2⟩, hk.2.1⟩)) hg hat); have n2_ := Aside0.mk (hb); have n3_ := Aside0.mk (ho); clear HL164_0; clear HO173; clear HB; clear HO_5; clear HO170; have HL164_0 := n0_; have HO173 := n1_; have HB := n2_; have HO176 := n3_; clear n0_ n1_ n2_ n3_; clear ho hb hg hat))
                  go_roundg k1
                  case measure => have := HK1.out; omega
                  case rel => exact ⟨(y171), (y174), (wrap64 (x20_1 + 1)), (by first | rfl | (simp; done) | (simp [*]; done)), H', ⟨by have := HK1.out; omega⟩, ⟨by (with_reducible repeat (first | apply Kd.N_alloc | apply Kd.N_drewN | apply Kd.N_drew)); exact Kd.N_mono HO173.out (fun _ hk => ⟨hk.1.1, hk.2⟩)⟩, ⟨by (with_reducible repeat (first | apply Kd.N_alloc | apply Kd.N_drewN | apply Kd.N_drew)); exact HO176.out⟩, ⟨by repeat (first | (with_reducible first | exact HB.out | apply below_alloc | apply pw_below_drewN | apply below_drew1) | exact HB.out)⟩⟩
                · rw [if_neg c21] at H
                  exact absurd H (by simp)
              · rw [if_neg c20] at H
                exact absurd H (by simp)
            · rw [if_neg c18] at H
              exact absurd H (by simp)
          · rw [if_neg c17] at H
            exact absurd H (by simp)
        · rw [if_neg c16] at H
          have c16b0 : decide (x20_1 < a0) = false := decide_eq_false c16
          clear c16
          simp only [Option.some.injEq, Prod.mk.injEq] at H
          obtain ⟨rfl, rfl⟩ := H
          go_wp2
          go_ret2
          exact ⟨_, _, by first | rfl | (simp [errW_none, errW_some] <;> rfl) | (simp [*, errW_none, errW_some] <;> rfl), by (with_reducible repeat (first | apply Kd.N_alloc | apply Kd.N_drewN | apply Kd.N_drew)); exact HO_4.out, by (with_reducible repeat (first | apply Kd.N_alloc | apply Kd.N_drewN | apply Kd.N_drew)); exact HO_5.out, by repeat (first | (with_reducible first | exact HB.out | apply below_alloc | apply pw_below_drewN | apply below_drew1) | exact HB.out)⟩
  · replace c4 := Bool.eq_false_iff.mpr c4
    subst c4
    have H1 : (some (([] : List (List Int)), ([] : List (List Int)))) = some (r1, r2) := by rw [if_neg (show ¬ (false = true) by decide)] at H; exact H
    clear H
    have H := H1
    clear H1
    simp only [Option.some.injEq, Prod.mk.injEq] at H
    obtain ⟨rfl, rfl⟩ := H
    go_enter Try.func21, Try.ntmps21
    go_wp2_with (first | ((with_reducible refine gate_callee (f := 23) rfl ?_); refine goesL_ (some 11) rfl rfl Try.func23 (by kernel_rfl) rfl #[.int .i64 a0, .slice A1 l1.length c1] rfl (by (try simp only [List.map_toArray, List.map_cons, List.map_nil]); first | done | rfl | (simp only [List.length_drop, List.length_take]; rfl)) ?_; (with_reducible refine (relax_May.calls a0 _ _ l1 false _ ?side1 ?side2 A3.out).mono ?_); (case side1 => repeat (first | exact HR1.out | (with_reducible refine Kd.C_alloc ?_ _) | (with_reducible refine Kd.C_drewN ?_ _) | (with_reducible refine Kd.C_drew ?_))); (case side2 => exact HC1.out); rintro e w28 ⟨rfl, hb⟩; refine ⟨_, rfl, ?_⟩; have n0_ := Aside0.mk (below_step (by repeat (first | (with_reducible first | exact HB.out | apply below_alloc | apply pw_below_drewN | apply below_drew1) | exact HB.out)) hb); clear HB; have HB := n0_; clear n0_; (try clear hb); (try clear hb2); (try clear hk); (try clear hi)))
    go_ret2
    exact ⟨_, _, by first | rfl | (simp [errW_none, errW_some] <;> rfl) | (simp [*, errW_none, errW_some] <;> rfl), by first | exact Kd.S_nil _ _ _ _ _ | exact Kd.N_nil _ _ _ _ _ | exact Kd.V_nil _ _ _ _ _ | exact Kd.Q_nil _ _ _ _ _ | exact Kd.R_nil _ _ _ _ _, by first | exact Kd.S_nil _ _ _ _ _ | exact Kd.N_nil _ _ _ _ _ | exact Kd.V_nil _ _ _ _ _ | exact Kd.Q_nil _ _ _ _ _ | exact Kd.R_nil _ _ _ _ _, by repeat (first | (with_reducible first | exact HB.out | apply below_alloc | apply pw_below_drewN | apply below_drew1) | exact HB.out)⟩

end Go.Proofs.Ytacjlaiddnfpdaa.CE
