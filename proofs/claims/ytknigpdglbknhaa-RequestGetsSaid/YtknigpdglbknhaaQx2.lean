-- WRITTEN FOR THIS CLAIM by wip/tools/mp.py, a program of this project that drives the kit's print; the functions that the print does not take are this project's own texts.
import Derived.Test.YtknigpdglbknhaaQx0
import Derived.Test.YtknigpdglbknhaaQx1
namespace Go.Proofs.Ytknigpdglbknhaa.Q
open Go.RowKit Go.Proofs.YtknigpdglbknhaaW.PrintWords Go.Proofs.YtknigpdglbknhaaW.PrintLast Go.Proofs.YtknigpdglbknhaaW.PrintMore
attribute [local go_sem] max2_int min2_int max_two min_two max_three min_three max_four min_four   -- for this text's walks alone
set_option linter.unusedVariables false
set_option linter.unusedSimpArgs false

/-! ### request_Get: function 34 -/
def request_Get.f (k : Nat) (l0 : List Int) : Option (Int × List Int × Int × Int) :=
  if l0.length = 0 then some (0, [], 0, 2) else
  if wrap64 (rd l0 0) = 1 then (if 4097 < l0.length then some (0, [], 0, 10) else (slices_Clone_byte_byte.f (l0.drop 1)).bind fun b => some (1, b, 0, 0))
  else if wrap64 (rd l0 0) = 4 then ((pack_Get.f k (l0.drop 1) 0 8).bind fun g => if g.2 = true then (if l0.length < 9 then none else if 9 < l0.length then some (0, [], 0, 3) else some (4, [], g.1, 0)) else some (0, [], 0, 2))
  else if wrap64 (rd l0 0) = 2 ∨ wrap64 (rd l0 0) = 3 ∨ wrap64 (rd l0 0) = 5 then (if 1 < l0.length then some (0, [], 0, 3) else some (wrap64 (rd l0 0), [], 0, 0))
  else some (0, [], 0, 4)
theorem request_Get.mono : ∀ a0 k, LeO (request_Get.f k a0) (request_Get.f (k + 1) a0) := by
  intro a0 k
  exact LeO.ite (LeO.refl _) (LeO.ite (LeO.refl _) (LeO.ite (LeO.bind (pack_Get.mono _ _ _ _) (fun _ => LeO.refl _)) (LeO.refl _)))
set_option maxHeartbeats 8000000 in
set_option maxRecDepth 100000 in
theorem request_Get.calls (k : Nat) (A0 : Option Addr) (c0 : Nat) (l0 : List Int) (r1 : Int) (r2 : List Int) (r3 : Int) (r4 : Int) (w : World) (hr0 : Kd.C (Kd.int .u8) w A0 l0.length l0) (hc0 : l0.length ≤ c0) (h : request_Get.f k l0 = some (r1, r2, r3, r4)) :
    Calls Try.prog 34 #[.slice A0 l0.length c0] w fun e w' => ∃ v1_ : Value, e = .returned (.tuple #[.agg #[.int .i64 r1, v1_, .int .u64 r3], .int .i64 r4]) ∧ Kd.R (Kd.int .u8) 5 w' w.heap.size (fun _ => True) v1_ r2 ∧ Below w.heap.size w w' := by
  have hu_ := Try.underlying54
  have HR := Aside0.mk hr0
  have HC := Aside0.mk hc0
  have hmax := Kd.C_max hr0
  clear hr0 hc0
  unfold request_Get.f at h
  by_cases c0_ : l0.length = 0
  case pos =>
    rw [if_pos c0_] at h
    obtain ⟨rfl, rfl, rfl, rfl⟩ : 0 = r1 ∧ [] = r2 ∧ 0 = r3 ∧ 2 = r4 := by simpa using h
    have cb : ((l0.length : Int) == 0) = true := by rw [c0_]; rfl
    clear h c0_
    go_enter Try.func34, Try.ntmps34
    go_wp2_with (fail)
    refine bodyPost_ret (results_ct rfl _ _ w.heap.size 54 _ (0, 0) _ rfl (blk_new w _) Try.underlying54 rfl (by kernel_rfl)) rfl ?_
    exact ⟨_, rfl, Kd.R_nil _ _ _ _ _, below_alloc (Below.refl _ _) _⟩
  rw [if_neg c0_] at h
  have cb : ((l0.length : Int) == 0) = false := by rw [beq_eq_false_iff_ne]; omega
  have HH := Aside0.mk h
  obtain ⟨ad, e, hx⟩ := Kd.at_int HR.out 0 (by omega) (by omega)
  cases e
  rw [show ((0 : Int)).toNat = 0 from rfl, Addr.add_zero'] at hx
  have hq0 : (0 < l0.length) = True := eq_true (by omega)
  have HX := Aside0.mk hx
  clear h hx
  obtain ⟨i0_, hi0_, _, hsz_, _⟩ := info_parts info5
  obtain ⟨A5, hcut5, hA5, hC5⟩ := print_drop_of (P := Try.prog) (Value.int .u8) 0 22 5 .i64 Try.underlying22 hi0_ hsz_ (some ad) c0 l0 1 (by omega) (by omega) HC.out
  have HR5 := Aside0.mk (Kd.C_of_reads (h1 := fun _ => rfl) (hA5 _ (Kd.reads_of_C HR.out)))
  have HC5 := Aside0.mk hC5
  simp only [show Int.toNat 1 = 1 from rfl, List.length_drop] at hcut5
  clear hA5 hC5 hi0_ hsz_
  have HB1 := Aside0.mk (below_alloc (Below.refl w.heap.size w) (.cells #[.int .i64 0, .slice none 0 0, .int .u64 0] 54 (0, 0)))
  have HK1 := Aside0.mk (blk_new w (.cells #[.int .i64 0, .slice none 0 0, .int .u64 0] 54 (0, 0)))
  go_enter Try.func34, Try.ntmps34
  go_wp2_with (fail)
  generalize hW : w.alloc (.cells #[.int .i64 0, .slice none 0 0, .int .u64 0] 54 (0, 0)) = W1 at HB1 HK1 ⊢
  clear hW
  have hx1 := (HB1.out.cell (World.block_lt_of_cell? w _ HX.out)).trans HX.out
  refine start_ (n := 10) (S := fun w' => w'.cell? ad = some (.int .u8 (rd l0 0))) (ds := []) #[false, false, false, false, false, false, false, false, false, false] (by kernel_rfl) rfl rfl (hx1) (fun hHeld => ?_)
  refine pure_ (i := 0) (N := some 12) (v := ?_) (a' := ?_) #[true, false, false, false, false, false, false, false, false, false] rfl rfl (by kernel_rfl) (fun _ _ _ h => h) (Or.inl ⟨by rfl, ?_⟩) ?_ ?_
  rotate_left
  · intro w'
    go_simp
    with_reducible rfl
  rotate_left
  · simp only [Act.put, List.setIfInBounds_toArray, List.set_cons_zero, List.set_cons_succ, i64_w, i32_w]
    rfl
  refine pure_ (i := 1) (N := some 13) (v := ?_) (a' := ?_) #[true, true, false, false, false, false, false, false, false, false] rfl rfl (by kernel_rfl) (fun _ _ _ h => h) (Or.inl ⟨by rfl, ?_⟩) ?_ ?_
  rotate_left
  · intro w'
    go_simp
    with_reducible rfl
  rotate_left
  · simp only [Act.put, List.setIfInBounds_toArray, List.set_cons_zero, List.set_cons_succ, i64_w, i32_w]
    rfl
  refine pure_ (i := 5) (N := some 17) (v := ?_) (a' := ?_) #[true, true, false, false, false, true, false, false, false, false] rfl rfl (by kernel_rfl) (fun _ _ _ h => h) (Or.inl ⟨by rfl, ?_⟩) ?_ ?_
  rotate_left
  · intro w'
    go_simp
    with_reducible rfl
  rotate_left
  · simp only [Act.put, List.setIfInBounds_toArray, List.set_cons_zero, List.set_cons_succ, i64_w, i32_w]
    rfl
  refine pure_ (i := 6) (N := some 18) (v := ?_) (a' := ?_) #[true, true, false, false, false, true, true, false, false, false] rfl rfl (by kernel_rfl) (fun _ _ _ h => h) (Or.inl ⟨by rfl, ?_⟩) ?_ ?_
  rotate_left
  · intro w'
    go_simp
    with_reducible rfl
  rotate_left
  · simp only [Act.put, List.setIfInBounds_toArray, List.set_cons_zero, List.set_cons_succ, i64_w, i32_w]
    rfl
  refine take_ (i := 2) (N := some 14) (v := ?_) (a' := ?_) #[true, true, true, false, false, true, true, false, false, false] rfl rfl (by kernel_rfl) (fun _ _ _ h => h) (Or.inl ⟨by rfl, ?_⟩) hHeld ?_ ?_
  rotate_left
  · intro w' s0
    go_simp
    with_reducible rfl
  rotate_left
  · simp only [Act.put, List.setIfInBounds_toArray, List.set_cons_zero, List.set_cons_succ, i64_w, i32_w]
    rfl
  refine pure_ (i := 3) (N := some 15) (v := ?_) (a' := ?_) #[true, true, true, true, false, true, true, false, false, false] rfl rfl (by kernel_rfl) (fun _ _ _ h => h) (Or.inl ⟨by rfl, ?_⟩) ?_ ?_
  rotate_left
  · intro w'
    go_simp
    with_reducible rfl
  rotate_left
  · simp only [Act.put, List.setIfInBounds_toArray, List.set_cons_zero, List.set_cons_succ, i64_w, i32_w]
    rfl
  refine pure_ (i := 4) (N := some 16) (v := ?_) (a' := ?_) #[true, true, true, true, true, true, true, false, false, false] rfl rfl (by kernel_rfl) (fun _ _ _ h => h) (Or.inl ⟨by rfl, ?_⟩) ?_ ?_
  rotate_left
  · intro w'
    go_simp
    with_reducible rfl
  rotate_left
  · simp only [Act.put, List.setIfInBounds_toArray, List.set_cons_zero, List.set_cons_succ, i64_w, i32_w]
    rfl
  refine one_ (i := 7) (N := some 4) #[true, true, true, true, true, true, true, true, false, false] rfl rfl (by kernel_rfl) (by decide) (fun K hK => ?_)
  refine box_step ?hg (N := 4) ?hd (cs := #[.int .i64 0, .slice none 0 0, .int .u64 0]) (t := 54) ?hr ?_; (case hd => rfl); (case hg => rfl); (case hr => first | (go_simp; done) | (go_simp; rfl))
  intro gb4 hg4 w4 hbox hb4
  have HB4 := Aside0.mk (below_step (below_drew1 HB1.out) hb4)
  have HK2 := Aside0.mk (blk_below (g := w.heap.size) (o := .cells #[.int .i64 0, .slice none 0 0, .int .u64 0] 54 (0, 0)) (blk_drew HK1.out) hb4)
  have HK4 := Aside0.mk hbox
  have HG4 := Aside0.mk (show w.heap.size < gb4 by rw [hg4]; exact blk_lt (blk_drew HK1.out))
  clear hb4 hbox hg4
  refine hK.out _ _ (((HB4.out.cell (World.block_lt_of_cell? w _ HX.out)).trans HX.out)) (fun hHeld => ?_)
  clear hK K
  refine norm_ (a' := ?_) ?_ ?_
  rotate_left
  · show Act.put _ (some 4) _ = _
    simp only [Act.put, List.setIfInBounds_toArray, List.set_cons_zero, List.set_cons_succ, i64_w, i32_w]
    rfl
  refine one_ (i := 8) (N := none) #[true, true, true, true, true, true, true, true, true, false] rfl rfl (by kernel_rfl) (by decide) (fun K hK => ?_)
  have hs0 : w4.cell? ⟨gb4, 0, none⟩ = some (.int .i64 0) := (blk_cell HK4.out 0).trans rfl
  have hf0 := blk_frozen HK4.out 0
  have hs1 : w4.cell? ⟨gb4, 1, none⟩ = some (.slice none 0 0) := (blk_cell HK4.out 1).trans rfl
  have hf1 := blk_frozen HK4.out 1
  have hs2 : w4.cell? ⟨gb4, 2, none⟩ = some (.int .u64 0) := (blk_cell HK4.out 2).trans rfl
  have hf2 := blk_frozen HK4.out 2
  refine skip_ (w1 := ?_) (by rfl) rfl ?_ ?_
  rotate_left
  · (go_simp; rfl)
  have HB5 := Aside0.mk (show Below w.heap.size w (((w4.setCell ⟨gb4, 0, none⟩ (.int .i64 (wrap64 (rd l0 0)))).setCell ⟨gb4, 1, none⟩ (.slice none 0 0)).setCell ⟨gb4, 2, none⟩ (.int .u64 0)) from below_set (below_set (below_set HB4.out (Nat.le_of_lt HG4.out)) (Nat.le_of_lt HG4.out)) (Nat.le_of_lt HG4.out))
  refine hK.out _ _ (((HB5.out.cell (World.block_lt_of_cell? w _ HX.out)).trans HX.out)) (fun hHeld => ?_)
  clear hK K
  refine pure_ (i := 9) (N := some 5) (v := ?_) (a' := ?_) #[true, true, true, true, true, true, true, true, true, true] rfl rfl (by kernel_rfl) (fun _ _ _ h => h) (Or.inl ⟨by rfl, ?_⟩) ?_ ?_
  rotate_left
  · intro w'
    go_simp
    with_reducible rfl
  rotate_left
  · simp only [Act.put, List.setIfInBounds_toArray, List.set_cons_zero, List.set_cons_succ, i64_w, i32_w]
    rfl
  refine done_ (by kernel_rfl) ?_
  clear hs0 hf0 hs1 hf1 hs2 hf2 hHeld
  have HK5 := Aside0.mk (show (((w4.setCell ⟨gb4, 0, none⟩ (.int .i64 (wrap64 (rd l0 0)))).setCell ⟨gb4, 1, none⟩ (.slice none 0 0)).setCell ⟨gb4, 2, none⟩ (.int .u64 0)).heap[gb4]? = some (.cells #[.int .i64 (wrap64 (rd l0 0)), .slice none 0 0, .int .u64 0] 54 (0, 0)) from blk_set (blk_set (blk_set HK4.out 0 _) 1 _) 2 _)
  have HK6 := Aside0.mk (show (((w4.setCell ⟨gb4, 0, none⟩ (.int .i64 (wrap64 (rd l0 0)))).setCell ⟨gb4, 1, none⟩ (.slice none 0 0)).setCell ⟨gb4, 2, none⟩ (.int .u64 0)).heap[w.heap.size]? = some (.cells #[.int .i64 0, .slice none 0 0, .int .u64 0] 54 (0, 0)) from blk_far (blk_far (blk_far HK2.out (Nat.ne_of_lt HG4.out) _) (Nat.ne_of_lt HG4.out) _) (Nat.ne_of_lt HG4.out) _)
  generalize (((w4.setCell ⟨gb4, 0, none⟩ (.int .i64 (wrap64 (rd l0 0)))).setCell ⟨gb4, 1, none⟩ (.slice none 0 0)).setCell ⟨gb4, 2, none⟩ (.int .u64 0)) = W5 at HB5 HK5 HK6 ⊢
  clear HB4 HK4 HK2 HB1 HK1 hx1
  have h := HH.out
  clear HH
  generalize wrap64 (rd l0 0) = z at h HK5
  have k0 : W5.cell? ⟨gb4, 0, none⟩ = some (.int .i64 z) := (blk_cell HK5.out 0).trans rfl
  have k1 : W5.cell? ⟨gb4, 1, none⟩ = some (.slice none 0 0) := (blk_cell HK5.out 1).trans rfl
  have k2 : W5.cell? ⟨gb4, 2, none⟩ = some (.int .u64 0) := (blk_cell HK5.out 2).trans rfl
  have f0 := blk_frozen HK5.out 0
  have f1 := blk_frozen HK5.out 1
  have f2 := blk_frozen HK5.out 2
  have m0 : W5.cell? ⟨w.heap.size, 0, none⟩ = some (.int .i64 0) := (blk_cell HK6.out 0).trans rfl
  have m1 : W5.cell? ⟨w.heap.size, 1, none⟩ = some (.slice none 0 0) := (blk_cell HK6.out 1).trans rfl
  have m2 : W5.cell? ⟨w.heap.size, 2, none⟩ = some (.int .u64 0) := (blk_cell HK6.out 2).trans rfl
  have n0 := blk_frozen HK6.out 0
  have n1 := blk_frozen HK6.out 1
  have n2 := blk_frozen HK6.out 2
  by_cases z1 : z = 1
  · rw [if_pos z1] at h
    subst z1
    by_cases g1 : 4097 < l0.length
    · rw [if_pos g1] at h
      obtain ⟨rfl, rfl, rfl, rfl⟩ : 0 = r1 ∧ [] = r2 ∧ 0 = r3 ∧ 10 = r4 := by simpa using h
      have g1b : decide (4096 < ((l0.length - 1 : Nat) : Int)) = true := decide_eq_true (by omega)
      clear h g1
      go_wp2_with (fail)
      refine bodyPost_ret (results_ct rfl _ _ w.heap.size 54 _ (0, 0) _ rfl (blk_set (blk_set (blk_set HK6.out 0 _) 1 _) 2 _) Try.underlying54 rfl (by kernel_rfl)) rfl ?_
      exact ⟨_, rfl, Kd.R_nil _ _ _ _ _, below_set (below_set (below_set HB5.out (Nat.le_refl _)) (Nat.le_refl _)) (Nat.le_refl _)⟩
    · rw [if_neg g1] at h
      have g1b : decide (4096 < ((l0.length - 1 : Nat) : Int)) = false := decide_eq_false (by omega)
      obtain ⟨b, hb, h⟩ := Option.bind_eq_some_iff.mp h
      obtain ⟨rfl, rfl, rfl, rfl⟩ : 1 = r1 ∧ b = r2 ∧ 0 = r3 ∧ 0 = r4 := by simpa using h
      have HQ := Aside0.mk hb
      clear h hb g1
      have hcall := slices_Clone_byte_byte.calls A5 (c0 - 1) (l0.drop 1) b _ (Kd.C_below HR5.out HB5.out) HC5.out HQ.out
      rw [List.length_drop] at hcall
      have HCALL := Aside0.mk hcall
      clear hcall
      have HLT := Aside0.mk (blk_lt HK5.out)
      go_wp2_with (fail)
      refine HCALL.out.mono ?_
      rintro e w6 ⟨v6, rfl, h6, hb6⟩
      have HB6 := Aside0.mk (below_step HB5.out hb6)
      have HK4 := Aside0.mk (blk_below HK5.out hb6)
      have HK2 := Aside0.mk (blk_below HK6.out hb6)
      clear hb6
      clear k0 k1 k2 f0 f1 f2 m0 m1 m2 n0 n1 n2
      obtain ⟨A6, c6, rfl⟩ := Kd.R_slice h6
      have H6 := Aside0.mk h6
      clear h6
      have k0 : w6.cell? ⟨gb4, 0, none⟩ = some (.int .i64 1) := (blk_cell HK4.out 0).trans rfl
      have f0 := blk_frozen HK4.out 0
      have k1 : w6.cell? ⟨gb4, 1, none⟩ = some (.slice none 0 0) := (blk_cell HK4.out 1).trans rfl
      have f1 := blk_frozen HK4.out 1
      have k2 : w6.cell? ⟨gb4, 2, none⟩ = some (.int .u64 0) := (blk_cell HK4.out 2).trans rfl
      have f2 := blk_frozen HK4.out 2
      have m0 : w6.cell? ⟨w.heap.size, 0, none⟩ = some (.int .i64 0) := (blk_cell HK2.out 0).trans rfl
      have n0 := blk_frozen HK2.out 0
      have m1 : w6.cell? ⟨w.heap.size, 1, none⟩ = some (.slice none 0 0) := (blk_cell HK2.out 1).trans rfl
      have n1 := blk_frozen HK2.out 1
      have m2 : w6.cell? ⟨w.heap.size, 2, none⟩ = some (.int .u64 0) := (blk_cell HK2.out 2).trans rfl
      have n2 := blk_frozen HK2.out 2
      have hne : gb4 ≠ w.heap.size := Nat.ne_of_gt HG4.out
      have hne' : w.heap.size ≠ gb4 := Nat.ne_of_lt HG4.out
      go_wp2_with (fail)
      refine bodyPost_ret (results_ct rfl _ _ w.heap.size 54 _ (0, 0) _ rfl (blk_set (blk_set (blk_set (blk_far HK2.out (Nat.ne_of_lt HG4.out) _) 0 _) 1 _) 2 _) Try.underlying54 rfl (by kernel_rfl)) rfl ?_
      exact ⟨_, rfl, Kd.R_mono (Kd.R_far (p := ⟨w.heap.size, 2, none⟩) (Kd.R_far (p := ⟨w.heap.size, 1, none⟩) (Kd.R_far (p := ⟨w.heap.size, 0, none⟩) (Kd.R_far (p := ⟨gb4, 1, none⟩) (Kd.R_types (Kd.R_types (Kd.R_lower H6.out (Nat.le_trans (Nat.le_of_lt HG4.out) (Nat.le_of_lt HLT.out))) HK4.out (by decide)) HK2.out (by decide)) (fun _ hk => hk.1.2) _) (fun _ hk => hk.2) _) (fun _ hk => hk.2) _) (fun _ hk => hk.2) _) (fun _ _ => trivial), below_set (below_set (below_set (below_set HB6.out (Nat.le_of_lt HG4.out)) (Nat.le_refl _)) (Nat.le_refl _)) (Nat.le_refl _)⟩
  · rw [if_neg z1] at h
    have z1b : (z == 1) = false := beq_eq_false_iff_ne.mpr z1
    by_cases z4 : z = 4
    · rw [if_pos z4] at h
      subst z4
      obtain ⟨⟨v, ok⟩, hg, h⟩ := Option.bind_eq_some_iff.mp h
      have hcall := pack_Get.calls k A5 (c0 - 1) (l0.drop 1) 0 8 v ok _ (Kd.C_below HR5.out HB5.out) HC5.out hg
      rw [List.length_drop] at hcall
      have HCALL := Aside0.mk hcall
      clear hcall hg
      cases ok with
      | false =>
        obtain ⟨rfl, rfl, rfl, rfl⟩ : 0 = r1 ∧ [] = r2 ∧ 0 = r3 ∧ 2 = r4 := by simpa using h
        clear h
        go_wp2_with (fail)
        refine HCALL.out.mono ?_
        rintro e w6 ⟨rfl, hb6⟩
        have HB6 := Aside0.mk (below_step HB5.out hb6)
        have HK4 := Aside0.mk (blk_below HK5.out hb6)
        have HK2 := Aside0.mk (blk_below HK6.out hb6)
        clear hb6
        clear k0 k1 k2 f0 f1 f2 m0 m1 m2 n0 n1 n2
        have k0 : w6.cell? ⟨gb4, 0, none⟩ = some (.int .i64 4) := (blk_cell HK4.out 0).trans rfl
        have f0 := blk_frozen HK4.out 0
        have k1 : w6.cell? ⟨gb4, 1, none⟩ = some (.slice none 0 0) := (blk_cell HK4.out 1).trans rfl
        have f1 := blk_frozen HK4.out 1
        have k2 : w6.cell? ⟨gb4, 2, none⟩ = some (.int .u64 0) := (blk_cell HK4.out 2).trans rfl
        have f2 := blk_frozen HK4.out 2
        have m0 : w6.cell? ⟨w.heap.size, 0, none⟩ = some (.int .i64 0) := (blk_cell HK2.out 0).trans rfl
        have n0 := blk_frozen HK2.out 0
        have m1 : w6.cell? ⟨w.heap.size, 1, none⟩ = some (.slice none 0 0) := (blk_cell HK2.out 1).trans rfl
        have n1 := blk_frozen HK2.out 1
        have m2 : w6.cell? ⟨w.heap.size, 2, none⟩ = some (.int .u64 0) := (blk_cell HK2.out 2).trans rfl
        have n2 := blk_frozen HK2.out 2
        go_wp2_with (fail)
        refine bodyPost_ret (results_ct rfl _ _ w.heap.size 54 _ (0, 0) _ rfl (blk_set (blk_set (blk_set HK2.out 0 _) 1 _) 2 _) Try.underlying54 rfl (by kernel_rfl)) rfl ?_
        exact ⟨_, rfl, Kd.R_nil _ _ _ _ _, below_set (below_set (below_set HB6.out (Nat.le_refl _)) (Nat.le_refl _)) (Nat.le_refl _)⟩
      | true =>
        rw [if_pos (show ((v, true) : Int × Bool).2 = true from rfl)] at h
        by_cases q9 : l0.length < 9
        case pos => rw [if_pos q9] at h; cases h
        rw [if_neg q9] at h
        obtain ⟨i0_, hi0_, _, hsz_, _⟩ := info_parts info5
        obtain ⟨A8, hcut8, hA8, hC8⟩ := print_drop_of (P := Try.prog) (Value.int .u8) 0 22 5 .i64 Try.underlying22 hi0_ hsz_ A5 (c0 - 1) (l0.drop 1) 8 (by omega) (by rw [List.length_drop]; omega) HC5.out
        simp only [show Int.toNat 8 = 8 from rfl, List.length_drop] at hcut8
        clear hA8 hC8 hi0_ hsz_
        go_wp2_with (fail)
        refine HCALL.out.mono ?_
        rintro e w6 ⟨rfl, hb6⟩
        have HB6 := Aside0.mk (below_step HB5.out hb6)
        have HK4 := Aside0.mk (blk_below HK5.out hb6)
        have HK2 := Aside0.mk (blk_below HK6.out hb6)
        clear hb6
        clear k0 k1 k2 f0 f1 f2 m0 m1 m2 n0 n1 n2
        have k0 : w6.cell? ⟨gb4, 0, none⟩ = some (.int .i64 4) := (blk_cell HK4.out 0).trans rfl
        have f0 := blk_frozen HK4.out 0
        have k1 : w6.cell? ⟨gb4, 1, none⟩ = some (.slice none 0 0) := (blk_cell HK4.out 1).trans rfl
        have f1 := blk_frozen HK4.out 1
        have k2 : w6.cell? ⟨gb4, 2, none⟩ = some (.int .u64 0) := (blk_cell HK4.out 2).trans rfl
        have f2 := blk_frozen HK4.out 2
        have m0 : w6.cell? ⟨w.heap.size, 0, none⟩ = some (.int .i64 0) := (blk_cell HK2.out 0).trans rfl
        have n0 := blk_frozen HK2.out 0
        have m1 : w6.cell? ⟨w.heap.size, 1, none⟩ = some (.slice none 0 0) := (blk_cell HK2.out 1).trans rfl
        have n1 := blk_frozen HK2.out 1
        have m2 : w6.cell? ⟨w.heap.size, 2, none⟩ = some (.int .u64 0) := (blk_cell HK2.out 2).trans rfl
        have n2 := blk_frozen HK2.out 2
        have hne : gb4 ≠ w.heap.size := Nat.ne_of_gt HG4.out
        have hne' : w.heap.size ≠ gb4 := Nat.ne_of_lt HG4.out
        go_wp2_with (fail)
        refine start_ (n := 6) (S := fun w' => True) (ds := []) #[false, false, false, false, false, false] (by kernel_rfl) rfl rfl trivial (fun hHeld => ?_)
        refine pure_ (i := 0) (N := some 41) (v := ?_) (a' := ?_) #[true, false, false, false, false, false] rfl rfl (by kernel_rfl) (fun _ _ _ h => h) (Or.inl ⟨by rfl, ?_⟩) ?_ ?_
        rotate_left
        · intro w'
          go_simp
          with_reducible rfl
        rotate_left
        · simp only [Act.put, List.setIfInBounds_toArray, List.set_cons_zero, List.set_cons_succ, i64_w, i32_w]
          rfl
        refine pure_ (i := 1) (N := some 42) (v := ?_) (a' := ?_) #[true, true, false, false, false, false] rfl rfl (by kernel_rfl) (fun _ _ _ h => h) (Or.inl ⟨by rfl, ?_⟩) ?_ ?_
        rotate_left
        · intro w'
          go_simp
          with_reducible rfl
        rotate_left
        · simp only [Act.put, List.setIfInBounds_toArray, List.set_cons_zero, List.set_cons_succ, i64_w, i32_w]
          rfl
        refine pure_ (i := 2) (N := some 43) (v := ?_) (a' := ?_) #[true, true, true, false, false, false] rfl rfl (by kernel_rfl) (fun _ _ _ h => h) (Or.inl ⟨by rfl, ?_⟩) ?_ ?_
        rotate_left
        · intro w'
          go_simp
          with_reducible rfl
        rotate_left
        · simp only [Act.put, List.setIfInBounds_toArray, List.set_cons_zero, List.set_cons_succ, i64_w, i32_w]
          rfl
        refine pure_ (i := 3) (N := some 44) (v := ?_) (a' := ?_) #[true, true, true, true, false, false] rfl rfl (by kernel_rfl) (fun _ _ _ h => h) (Or.inl ⟨by rfl, ?_⟩) ?_ ?_
        rotate_left
        · intro w'
          go_simp
          with_reducible rfl
        rotate_left
        · simp only [Act.put, List.setIfInBounds_toArray, List.set_cons_zero, List.set_cons_succ, i64_w, i32_w]
          rfl
        refine one_ (i := 4) (N := none) #[true, true, true, true, true, false] rfl rfl (by kernel_rfl) (by decide) (fun K hK => ?_)
        refine skip_ (w1 := ?_) (by rfl) rfl ?_ ?_
        rotate_left
        · (go_simp; rfl)
        refine hK.out _ _ trivial (fun hHeld => ?_)
        clear hK K
        refine pure_ (i := 5) (N := some 5) (v := ?_) (a' := ?_) #[true, true, true, true, true, true] rfl rfl (by kernel_rfl) (fun _ _ _ h => h) (Or.inl ⟨by rfl, ?_⟩) ?_ ?_
        rotate_left
        · intro w'
          go_simp
          with_reducible rfl
        rotate_left
        · simp only [Act.put, List.setIfInBounds_toArray, List.set_cons_zero, List.set_cons_succ, i64_w, i32_w]
          rfl
        refine done_ (by kernel_rfl) ?_
        clear k0 k1 k2 f0 f1 f2 m0 m1 m2 n0 n1 n2
        have HB7 := Aside0.mk (show Below w.heap.size w (w6.setCell ⟨gb4, 2, none⟩ (.int .u64 v)).drew from below_drew1 (below_set HB6.out (Nat.le_of_lt HG4.out)))
        have HK7 := Aside0.mk (show (w6.setCell ⟨gb4, 2, none⟩ (.int .u64 v)).drew.heap[gb4]? = some (.cells #[.int .i64 4, .slice none 0 0, .int .u64 v] 54 (0, 0)) from blk_drew (blk_set HK4.out 2 _))
        have HK8 := Aside0.mk (show (w6.setCell ⟨gb4, 2, none⟩ (.int .u64 v)).drew.heap[w.heap.size]? = some (.cells #[.int .i64 0, .slice none 0 0, .int .u64 0] 54 (0, 0)) from blk_drew (blk_far HK2.out (Nat.ne_of_lt HG4.out) _))
        generalize (w6.setCell ⟨gb4, 2, none⟩ (.int .u64 v)).drew = w7 at HB7 HK7 HK8 ⊢
        have k0 : w7.cell? ⟨gb4, 0, none⟩ = some (.int .i64 4) := (blk_cell HK7.out 0).trans rfl
        have f0 := blk_frozen HK7.out 0
        have k1 : w7.cell? ⟨gb4, 1, none⟩ = some (.slice none 0 0) := (blk_cell HK7.out 1).trans rfl
        have f1 := blk_frozen HK7.out 1
        have k2 : w7.cell? ⟨gb4, 2, none⟩ = some (.int .u64 v) := (blk_cell HK7.out 2).trans rfl
        have f2 := blk_frozen HK7.out 2
        have m0 : w7.cell? ⟨w.heap.size, 0, none⟩ = some (.int .i64 0) := (blk_cell HK8.out 0).trans rfl
        have n0 := blk_frozen HK8.out 0
        have m1 : w7.cell? ⟨w.heap.size, 1, none⟩ = some (.slice none 0 0) := (blk_cell HK8.out 1).trans rfl
        have n1 := blk_frozen HK8.out 1
        have m2 : w7.cell? ⟨w.heap.size, 2, none⟩ = some (.int .u64 0) := (blk_cell HK8.out 2).trans rfl
        have n2 := blk_frozen HK8.out 2
        by_cases q10 : 9 < l0.length
        · rw [if_pos q10] at h
          obtain ⟨rfl, rfl, rfl, rfl⟩ : 0 = r1 ∧ [] = r2 ∧ 0 = r3 ∧ 3 = r4 := by simpa using h
          have q11 : decide (0 < l0.length - 1 - 8) = true := decide_eq_true (by omega)
          have q12 : decide (0 < ((l0.length - 9 : Nat) : Int)) = true := decide_eq_true (by omega)
          clear h
          go_wp2_with (fail)
          refine bodyPost_ret (results_ct rfl _ _ w.heap.size 54 _ (0, 0) _ rfl (blk_set (blk_set (blk_set HK8.out 0 _) 1 _) 2 _) Try.underlying54 rfl (by kernel_rfl)) rfl ?_
          exact ⟨_, rfl, Kd.R_nil _ _ _ _ _, below_set (below_set (below_set HB7.out (Nat.le_refl _)) (Nat.le_refl _)) (Nat.le_refl _)⟩
        · rw [if_neg q10] at h
          obtain ⟨rfl, rfl, rfl, rfl⟩ : 4 = r1 ∧ [] = r2 ∧ v = r3 ∧ 0 = r4 := by simpa using h
          have q11 : decide (0 < l0.length - 1 - 8) = false := decide_eq_false (by omega)
          have q12 : decide (0 < ((l0.length - 9 : Nat) : Int)) = false := decide_eq_false (by omega)
          clear h
          go_wp2_with (fail)
          refine bodyPost_ret (results_ct rfl _ _ w.heap.size 54 _ (0, 0) _ rfl (blk_set (blk_set (blk_set HK8.out 0 _) 1 _) 2 _) Try.underlying54 rfl (by kernel_rfl)) rfl ?_
          exact ⟨_, rfl, Kd.R_nil _ _ _ _ _, below_set (below_set (below_set HB7.out (Nat.le_refl _)) (Nat.le_refl _)) (Nat.le_refl _)⟩
    · rw [if_neg z4] at h
      have z4b : (z == 4) = false := beq_eq_false_iff_ne.mpr z4
      by_cases zq : z = 2 ∨ z = 3 ∨ z = 5
      · rw [if_pos zq] at h
        have hne : gb4 ≠ w.heap.size := Nat.ne_of_gt HG4.out
        have hne' : w.heap.size ≠ gb4 := Nat.ne_of_lt HG4.out
        by_cases q1 : 1 < l0.length
        · rw [if_pos q1] at h
          obtain ⟨rfl, rfl, rfl, rfl⟩ : 0 = r1 ∧ [] = r2 ∧ 0 = r3 ∧ 3 = r4 := by simpa using h
          have q1b : decide (0 < l0.length - 1) = true := decide_eq_true (by omega)
          clear h
          rcases zq with rfl | rfl | rfl
          · go_wp2_with (fail)
            refine bodyPost_ret (results_ct rfl _ _ w.heap.size 54 _ (0, 0) _ rfl (blk_set (blk_set (blk_set HK6.out 0 _) 1 _) 2 _) Try.underlying54 rfl (by kernel_rfl)) rfl ?_
            exact ⟨_, rfl, Kd.R_nil _ _ _ _ _, below_set (below_set (below_set HB5.out (Nat.le_refl _)) (Nat.le_refl _)) (Nat.le_refl _)⟩
          · go_wp2_with (fail)
            refine bodyPost_ret (results_ct rfl _ _ w.heap.size 54 _ (0, 0) _ rfl (blk_set (blk_set (blk_set HK6.out 0 _) 1 _) 2 _) Try.underlying54 rfl (by kernel_rfl)) rfl ?_
            exact ⟨_, rfl, Kd.R_nil _ _ _ _ _, below_set (below_set (below_set HB5.out (Nat.le_refl _)) (Nat.le_refl _)) (Nat.le_refl _)⟩
          · go_wp2_with (fail)
            refine bodyPost_ret (results_ct rfl _ _ w.heap.size 54 _ (0, 0) _ rfl (blk_set (blk_set (blk_set HK6.out 0 _) 1 _) 2 _) Try.underlying54 rfl (by kernel_rfl)) rfl ?_
            exact ⟨_, rfl, Kd.R_nil _ _ _ _ _, below_set (below_set (below_set HB5.out (Nat.le_refl _)) (Nat.le_refl _)) (Nat.le_refl _)⟩
        · rw [if_neg q1] at h
          obtain ⟨rfl, rfl, rfl, rfl⟩ : z = r1 ∧ [] = r2 ∧ 0 = r3 ∧ 0 = r4 := by simpa using h
          have q1b : decide (0 < l0.length - 1) = false := decide_eq_false (by omega)
          clear h
          rcases zq with rfl | rfl | rfl
          · go_wp2_with (fail)
            refine bodyPost_ret (results_ct rfl _ _ w.heap.size 54 _ (0, 0) _ rfl (blk_set (blk_set (blk_set HK6.out 0 _) 1 _) 2 _) Try.underlying54 rfl (by kernel_rfl)) rfl ?_
            exact ⟨_, rfl, Kd.R_nil _ _ _ _ _, below_set (below_set (below_set HB5.out (Nat.le_refl _)) (Nat.le_refl _)) (Nat.le_refl _)⟩
          · go_wp2_with (fail)
            refine bodyPost_ret (results_ct rfl _ _ w.heap.size 54 _ (0, 0) _ rfl (blk_set (blk_set (blk_set HK6.out 0 _) 1 _) 2 _) Try.underlying54 rfl (by kernel_rfl)) rfl ?_
            exact ⟨_, rfl, Kd.R_nil _ _ _ _ _, below_set (below_set (below_set HB5.out (Nat.le_refl _)) (Nat.le_refl _)) (Nat.le_refl _)⟩
          · go_wp2_with (fail)
            refine bodyPost_ret (results_ct rfl _ _ w.heap.size 54 _ (0, 0) _ rfl (blk_set (blk_set (blk_set HK6.out 0 _) 1 _) 2 _) Try.underlying54 rfl (by kernel_rfl)) rfl ?_
            exact ⟨_, rfl, Kd.R_nil _ _ _ _ _, below_set (below_set (below_set HB5.out (Nat.le_refl _)) (Nat.le_refl _)) (Nat.le_refl _)⟩
      · rw [if_neg zq] at h
        obtain ⟨rfl, rfl, rfl, rfl⟩ : 0 = r1 ∧ [] = r2 ∧ 0 = r3 ∧ 4 = r4 := by simpa using h
        have z2b : (z == 2) = false := beq_eq_false_iff_ne.mpr (fun e => zq (.inl e))
        have z3b : (z == 3) = false := beq_eq_false_iff_ne.mpr (fun e => zq (.inr (.inl e)))
        have z5b : (z == 5) = false := beq_eq_false_iff_ne.mpr (fun e => zq (.inr (.inr e)))
        clear h zq z1 z4
        go_wp2_with (fail)
        refine bodyPost_ret (results_ct rfl _ _ w.heap.size 54 _ (0, 0) _ rfl (blk_set (blk_set (blk_set HK6.out 0 _) 1 _) 2 _) Try.underlying54 rfl (by kernel_rfl)) rfl ?_
        exact ⟨_, rfl, Kd.R_nil _ _ _ _ _, below_set (below_set (below_set HB5.out (Nat.le_refl _)) (Nat.le_refl _)) (Nat.le_refl _)⟩


/-! ### merkhetref23_Same: function 35 -/
def merkhetref23_Same.f (a0_0 : Int) (l0_1 : List Int) (a0_2 : Int) (a1_0 : Int) (l1_1 : List Int) (a1_2 : Int) : Option (Bool) := if a0_0 = a1_0 then (if a0_2 = a1_2 then (some ((strOfNums l0_1).toList == (strOfNums l1_1).toList)) else (some false)) else (some false)
set_option maxHeartbeats 8000000 in
set_option maxRecDepth 100000 in
theorem merkhetref23_Same.calls (a0_0 : Int) (A0_1 : Option Addr) (c0_1 : Nat) (l0_1 : List Int) (a0_2 : Int) (a1_0 : Int) (A1_1 : Option Addr) (c1_1 : Nat) (l1_1 : List Int) (a1_2 : Int) (r : Bool) (w : World) (hr0_1 : Kd.C (Kd.int .u8) w A0_1 l0_1.length l0_1) (hc0_1 : l0_1.length ≤ c0_1) (hr1_1 : Kd.C (Kd.int .u8) w A1_1 l1_1.length l1_1) (hc1_1 : l1_1.length ≤ c1_1) (h : merkhetref23_Same.f a0_0 l0_1 a0_2 a1_0 l1_1 a1_2 = some r) :
    Calls Try.prog 35 #[.agg #[.int .i64 a0_0, .slice A0_1 l0_1.length c0_1, .int .u64 a0_2], .agg #[.int .i64 a1_0, .slice A1_1 l1_1.length c1_1, .int .u64 a1_2]] w fun e w' => e = .returned (.bool r) ∧ Below w.heap.size w w' := by
  have hu54 := Try.underlying54
  have HR0_1 := Aside0.mk hr0_1
  have HC0_1 := Aside0.mk hc0_1
  clear hr0_1 hc0_1
  have HR1_1 := Aside0.mk hr1_1
  have HC1_1 := Aside0.mk hc1_1
  clear hr1_1 hc1_1
  have HB := Aside0.mk (Below.refl w.heap.size w)
  have H : (if a0_0 = a1_0 then (if a0_2 = a1_2 then (some ((strOfNums l0_1).toList == (strOfNums l1_1).toList)) else (some false)) else (some false)) = some r := h
  clear h
  by_cases c3 : a0_0 = a1_0
  · rw [if_pos c3] at H
    have c3b0 : (a0_0 == a1_0) = true := beq_iff_eq.mpr c3
    have c3b1 : (a0_0 != a1_0) = false := bne_eq_false_iff_eq.mpr c3
    clear c3
    by_cases c4 : a0_2 = a1_2
    · rw [if_pos c4] at H
      have c4b0 : (a0_2 == a1_2) = true := beq_iff_eq.mpr c4
      have c4b1 : (a0_2 != a1_2) = false := bne_eq_false_iff_eq.mpr c4
      clear c4
      obtain rfl := Option.some.inj H
      go_enter Try.func35, Try.ntmps35
      go_wp2_with (first | ((with_reducible refine gate_dst (N := 2) rfl ?_); refine box_event ?hg (N := 2) ?hd (cs := #[.int .i64 a0_0, .slice A0_1 l0_1.length c0_1, .int .u64 a0_2]) (t := 54) ?hr ?_; (case hd => rfl); (case hg => rfl); (case hr => first | (go_simp; done) | (go_simp; rfl)); intro gb120 hg w5 hbox hb; have n0_ := Aside0.mk (below_step (by repeat (first | (with_reducible first | exact HB.out | apply below_alloc | apply pw_below_drewN | apply below_drew1) | exact HB.out)) hb); have n1_ := Aside0.mk (hbox); have n2_ := Aside0.mk ((by rw [hg]; exact (below_size (by repeat (first | (with_reducible first | exact HB.out | apply below_alloc | apply pw_below_drewN | apply below_drew1) | exact HB.out))) : w.heap.size ≤ gb120)); have n3_ := Aside0.mk ((by rw [hg]; exact (below_size (by repeat (first | (with_reducible first | exact HB.out | apply below_alloc | apply pw_below_drewN | apply below_drew1) | exact HB.out))) : w.heap.size ≤ gb120)); clear HB; have HB := n0_; have BK120 := n1_; have GW120 := n2_; have GE120 := n3_; clear n0_ n1_ n2_ n3_; clear hb hbox hg) | ((with_reducible refine gate_dst (N := 3) rfl ?_); refine box_event ?hg (N := 3) ?hd (cs := #[.int .i64 a1_0, .slice A1_1 l1_1.length c1_1, .int .u64 a1_2]) (t := 54) ?hr ?_; (case hd => rfl); (case hg => rfl); (case hr => first | (go_simp; done) | (go_simp; rfl)); intro gb121 hg w6 hbox hb; have n0_ := Aside0.mk (blk_below (g := gb120) (o := .cells #[.int .i64 a0_0, .slice A0_1 l0_1.length c0_1, .int .u64 a0_2] 54 (0, 0)) (by (with_reducible repeat (first | refine blk_drewN ?_ _ | refine blk_drew ?_ | refine blk_alloc ?_ _)); exact BK120.out) hb); have n1_ := Aside0.mk (below_step (by repeat (first | (with_reducible first | exact HB.out | apply below_alloc | apply pw_below_drewN | apply below_drew1 | refine below_set ?_ GE120.out) | exact HB.out)) hb); have n2_ := Aside0.mk (hbox); have n3_ := Aside0.mk ((by rw [hg]; exact (below_size (by repeat (first | (with_reducible first | exact HB.out | apply below_alloc | apply pw_below_drewN | apply below_drew1 | refine below_set ?_ GE120.out) | exact HB.out))) : w.heap.size ≤ gb121)); have n4_ := Aside0.mk ((by rw [hg]; exact (below_size (by repeat (first | (with_reducible first | exact HB.out | apply below_alloc | apply pw_below_drewN | apply below_drew1 | refine below_set ?_ GE120.out) | exact HB.out))) : w.heap.size ≤ gb121)); have n5_ := Aside0.mk ((by rw [hg]; exact Nat.ne_of_lt (blk_lt (g := gb120) (o := .cells #[.int .i64 a0_0, .slice A0_1 l0_1.length c0_1, .int .u64 a0_2] 54 (0, 0)) (by (with_reducible repeat (first | refine blk_drewN ?_ _ | refine blk_drew ?_ | refine blk_alloc ?_ _)); exact BK120.out)) : gb120 ≠ gb121)); have n6_ := Aside0.mk ((by rw [hg]; exact Nat.ne_of_gt (blk_lt (g := gb120) (o := .cells #[.int .i64 a0_0, .slice A0_1 l0_1.length c0_1, .int .u64 a0_2] 54 (0, 0)) (by (with_reducible repeat (first | refine blk_drewN ?_ _ | refine blk_drew ?_ | refine blk_alloc ?_ _)); exact BK120.out)) : gb121 ≠ gb120)); clear BK120; clear HB; have BK120 := n0_; have HB := n1_; have BK121 := n2_; have GW121 := n3_; have GE121 := n4_; have NB120_121 := n5_; have NB121_120 := n6_; clear n0_ n1_ n2_ n3_ n4_ n5_ n6_; clear hb hbox hg; have hnb7 := NB120_121.out; have hnc7 := NB121_120.out; have hcz8_0 : w6.cell? ⟨gb120, 0, none⟩ = some (.int .i64 a0_0) := (blk_cell BK120.out 0).trans rfl; have hcz8_1 : w6.cell? ⟨gb120, 1, none⟩ = some (.slice A0_1 l0_1.length c0_1) := (blk_cell BK120.out 1).trans rfl; have hcz8_2 : w6.cell? ⟨gb120, 2, none⟩ = some (.int .u64 a0_2) := (blk_cell BK120.out 2).trans rfl; have hfz8_0 := blk_frozen BK120.out 0; have hfz8_1 := blk_frozen BK120.out 1; have hfz8_2 := blk_frozen BK120.out 2; have hcz9_0 : w6.cell? ⟨gb121, 0, none⟩ = some (.int .i64 a1_0) := (blk_cell BK121.out 0).trans rfl; have hcz9_1 : w6.cell? ⟨gb121, 1, none⟩ = some (.slice A1_1 l1_1.length c1_1) := (blk_cell BK121.out 1).trans rfl; have hcz9_2 : w6.cell? ⟨gb121, 2, none⟩ = some (.int .u64 a1_2) := (blk_cell BK121.out 2).trans rfl; have hfz9_0 := blk_frozen BK121.out 0; have hfz9_1 := blk_frozen BK121.out 1; have hfz9_2 := blk_frozen BK121.out 2; have hcv10 := Kd.C_string (P := Try.prog) (A := A0_1) (c := c0_1) Try.underlying22 Try.underlying5 Try.underlying9 (Kd.C_below HR0_1.out HB.out); have hcw10 := fun n_ : Nat => Kd.C_string (P := Try.prog) (A := A0_1) (c := c0_1) Try.underlying22 Try.underlying5 Try.underlying9 (Kd.C_drewN (Kd.C_below HR0_1.out HB.out) n_); have hcv11 := Kd.C_string (P := Try.prog) (A := A1_1) (c := c1_1) Try.underlying22 Try.underlying5 Try.underlying9 (Kd.C_below HR1_1.out HB.out); have hcw11 := fun n_ : Nat => Kd.C_string (P := Try.prog) (A := A1_1) (c := c1_1) Try.underlying22 Try.underlying5 Try.underlying9 (Kd.C_drewN (Kd.C_below HR1_1.out HB.out) n_)))
      go_ret
      exact ⟨by first | rfl | (simp [errW_none, errW_some] <;> rfl) | (simp [*, errW_none, errW_some] <;> rfl), by repeat (first | (with_reducible first | exact HB.out | apply below_alloc | apply pw_below_drewN | apply below_drew1 | refine below_set ?_ GE120.out | refine below_set ?_ GE121.out) | exact HB.out)⟩
    · rw [if_neg c4] at H
      have c4b0 : (a0_2 == a1_2) = false := beq_eq_false_iff_ne.mpr c4
      have c4b1 : (a0_2 != a1_2) = true := bne_iff_ne.mpr c4
      obtain rfl := Option.some.inj H
      go_enter Try.func35, Try.ntmps35
      go_wp2_with (first | ((with_reducible refine gate_dst (N := 2) rfl ?_); refine box_event ?hg (N := 2) ?hd (cs := #[.int .i64 a0_0, .slice A0_1 l0_1.length c0_1, .int .u64 a0_2]) (t := 54) ?hr ?_; (case hd => rfl); (case hg => rfl); (case hr => first | (go_simp; done) | (go_simp; rfl)); intro gb120 hg w12 hbox hb; have n0_ := Aside0.mk (below_step (by repeat (first | (with_reducible first | exact HB.out | apply below_alloc | apply pw_below_drewN | apply below_drew1) | exact HB.out)) hb); have n1_ := Aside0.mk (hbox); have n2_ := Aside0.mk ((by rw [hg]; exact (below_size (by repeat (first | (with_reducible first | exact HB.out | apply below_alloc | apply pw_below_drewN | apply below_drew1) | exact HB.out))) : w.heap.size ≤ gb120)); have n3_ := Aside0.mk ((by rw [hg]; exact (below_size (by repeat (first | (with_reducible first | exact HB.out | apply below_alloc | apply pw_below_drewN | apply below_drew1) | exact HB.out))) : w.heap.size ≤ gb120)); clear HB; have HB := n0_; have BK120 := n1_; have GW120 := n2_; have GE120 := n3_; clear n0_ n1_ n2_ n3_; clear hb hbox hg) | ((with_reducible refine gate_dst (N := 3) rfl ?_); refine box_event ?hg (N := 3) ?hd (cs := #[.int .i64 a1_0, .slice A1_1 l1_1.length c1_1, .int .u64 a1_2]) (t := 54) ?hr ?_; (case hd => rfl); (case hg => rfl); (case hr => first | (go_simp; done) | (go_simp; rfl)); intro gb121 hg w13 hbox hb; have n0_ := Aside0.mk (blk_below (g := gb120) (o := .cells #[.int .i64 a0_0, .slice A0_1 l0_1.length c0_1, .int .u64 a0_2] 54 (0, 0)) (by (with_reducible repeat (first | refine blk_drewN ?_ _ | refine blk_drew ?_ | refine blk_alloc ?_ _)); exact BK120.out) hb); have n1_ := Aside0.mk (below_step (by repeat (first | (with_reducible first | exact HB.out | apply below_alloc | apply pw_below_drewN | apply below_drew1 | refine below_set ?_ GE120.out) | exact HB.out)) hb); have n2_ := Aside0.mk (hbox); have n3_ := Aside0.mk ((by rw [hg]; exact (below_size (by repeat (first | (with_reducible first | exact HB.out | apply below_alloc | apply pw_below_drewN | apply below_drew1 | refine below_set ?_ GE120.out) | exact HB.out))) : w.heap.size ≤ gb121)); have n4_ := Aside0.mk ((by rw [hg]; exact (below_size (by repeat (first | (with_reducible first | exact HB.out | apply below_alloc | apply pw_below_drewN | apply below_drew1 | refine below_set ?_ GE120.out) | exact HB.out))) : w.heap.size ≤ gb121)); have n5_ := Aside0.mk ((by rw [hg]; exact Nat.ne_of_lt (blk_lt (g := gb120) (o := .cells #[.int .i64 a0_0, .slice A0_1 l0_1.length c0_1, .int .u64 a0_2] 54 (0, 0)) (by (with_reducible repeat (first | refine blk_drewN ?_ _ | refine blk_drew ?_ | refine blk_alloc ?_ _)); exact BK120.out)) : gb120 ≠ gb121)); have n6_ := Aside0.mk ((by rw [hg]; exact Nat.ne_of_gt (blk_lt (g := gb120) (o := .cells #[.int .i64 a0_0, .slice A0_1 l0_1.length c0_1, .int .u64 a0_2] 54 (0, 0)) (by (with_reducible repeat (first | refine blk_drewN ?_ _ | refine blk_drew ?_ | refine blk_alloc ?_ _)); exact BK120.out)) : gb121 ≠ gb120)); clear BK120; clear HB; have BK120 := n0_; have HB := n1_; have BK121 := n2_; have GW121 := n3_; have GE121 := n4_; have NB120_121 := n5_; have NB121_120 := n6_; clear n0_ n1_ n2_ n3_ n4_ n5_ n6_; clear hb hbox hg; have hnb14 := NB120_121.out; have hnc14 := NB121_120.out; have hcz15_0 : w13.cell? ⟨gb120, 0, none⟩ = some (.int .i64 a0_0) := (blk_cell BK120.out 0).trans rfl; have hcz15_1 : w13.cell? ⟨gb120, 1, none⟩ = some (.slice A0_1 l0_1.length c0_1) := (blk_cell BK120.out 1).trans rfl; have hcz15_2 : w13.cell? ⟨gb120, 2, none⟩ = some (.int .u64 a0_2) := (blk_cell BK120.out 2).trans rfl; have hfz15_0 := blk_frozen BK120.out 0; have hfz15_1 := blk_frozen BK120.out 1; have hfz15_2 := blk_frozen BK120.out 2; have hcz16_0 : w13.cell? ⟨gb121, 0, none⟩ = some (.int .i64 a1_0) := (blk_cell BK121.out 0).trans rfl; have hcz16_1 : w13.cell? ⟨gb121, 1, none⟩ = some (.slice A1_1 l1_1.length c1_1) := (blk_cell BK121.out 1).trans rfl; have hcz16_2 : w13.cell? ⟨gb121, 2, none⟩ = some (.int .u64 a1_2) := (blk_cell BK121.out 2).trans rfl; have hfz16_0 := blk_frozen BK121.out 0; have hfz16_1 := blk_frozen BK121.out 1; have hfz16_2 := blk_frozen BK121.out 2))
      go_ret
      exact ⟨by first | rfl | (simp [errW_none, errW_some] <;> rfl) | (simp [*, errW_none, errW_some] <;> rfl), by repeat (first | (with_reducible first | exact HB.out | apply below_alloc | apply pw_below_drewN | apply below_drew1 | refine below_set ?_ GE120.out | refine below_set ?_ GE121.out) | exact HB.out)⟩
  · rw [if_neg c3] at H
    have c3b0 : (a0_0 == a1_0) = false := beq_eq_false_iff_ne.mpr c3
    have c3b1 : (a0_0 != a1_0) = true := bne_iff_ne.mpr c3
    obtain rfl := Option.some.inj H
    go_enter Try.func35, Try.ntmps35
    go_wp2_with (first | ((with_reducible refine gate_dst (N := 2) rfl ?_); refine box_event ?hg (N := 2) ?hd (cs := #[.int .i64 a0_0, .slice A0_1 l0_1.length c0_1, .int .u64 a0_2]) (t := 54) ?hr ?_; (case hd => rfl); (case hg => rfl); (case hr => first | (go_simp; done) | (go_simp; rfl)); intro gb120 hg w17 hbox hb; have n0_ := Aside0.mk (below_step (by repeat (first | (with_reducible first | exact HB.out | apply below_alloc | apply pw_below_drewN | apply below_drew1) | exact HB.out)) hb); have n1_ := Aside0.mk (hbox); have n2_ := Aside0.mk ((by rw [hg]; exact (below_size (by repeat (first | (with_reducible first | exact HB.out | apply below_alloc | apply pw_below_drewN | apply below_drew1) | exact HB.out))) : w.heap.size ≤ gb120)); have n3_ := Aside0.mk ((by rw [hg]; exact (below_size (by repeat (first | (with_reducible first | exact HB.out | apply below_alloc | apply pw_below_drewN | apply below_drew1) | exact HB.out))) : w.heap.size ≤ gb120)); clear HB; have HB := n0_; have BK120 := n1_; have GW120 := n2_; have GE120 := n3_; clear n0_ n1_ n2_ n3_; clear hb hbox hg) | ((with_reducible refine gate_dst (N := 3) rfl ?_); refine box_event ?hg (N := 3) ?hd (cs := #[.int .i64 a1_0, .slice A1_1 l1_1.length c1_1, .int .u64 a1_2]) (t := 54) ?hr ?_; (case hd => rfl); (case hg => rfl); (case hr => first | (go_simp; done) | (go_simp; rfl)); intro gb121 hg w18 hbox hb; have n0_ := Aside0.mk (blk_below (g := gb120) (o := .cells #[.int .i64 a0_0, .slice A0_1 l0_1.length c0_1, .int .u64 a0_2] 54 (0, 0)) (by (with_reducible repeat (first | refine blk_drewN ?_ _ | refine blk_drew ?_ | refine blk_alloc ?_ _)); exact BK120.out) hb); have n1_ := Aside0.mk (below_step (by repeat (first | (with_reducible first | exact HB.out | apply below_alloc | apply pw_below_drewN | apply below_drew1 | refine below_set ?_ GE120.out) | exact HB.out)) hb); have n2_ := Aside0.mk (hbox); have n3_ := Aside0.mk ((by rw [hg]; exact (below_size (by repeat (first | (with_reducible first | exact HB.out | apply below_alloc | apply pw_below_drewN | apply below_drew1 | refine below_set ?_ GE120.out) | exact HB.out))) : w.heap.size ≤ gb121)); have n4_ := Aside0.mk ((by rw [hg]; exact (below_size (by repeat (first | (with_reducible first | exact HB.out | apply below_alloc | apply pw_below_drewN | apply below_drew1 | refine below_set ?_ GE120.out) | exact HB.out))) : w.heap.size ≤ gb121)); have n5_ := Aside0.mk ((by rw [hg]; exact Nat.ne_of_lt (blk_lt (g := gb120) (o := .cells #[.int .i64 a0_0, .slice A0_1 l0_1.length c0_1, .int .u64 a0_2] 54 (0, 0)) (by (with_reducible repeat (first | refine blk_drewN ?_ _ | refine blk_drew ?_ | refine blk_alloc ?_ _)); exact BK120.out)) : gb120 ≠ gb121)); have n6_ := Aside0.mk ((by rw [hg]; exact Nat.ne_of_gt (blk_lt (g := gb120) (o := .cells #[.int .i64 a0_0, .slice A0_1 l0_1.length c0_1, .int .u64 a0_2] 54 (0, 0)) (by (with_reducible repeat (first | refine blk_drewN ?_ _ | refine blk_drew ?_ | refine blk_alloc ?_ _)); exact BK120.out)) : gb121 ≠ gb120)); clear BK120; clear HB; have BK120 := n0_; have HB := n1_; have BK121 := n2_; have GW121 := n3_; have GE121 := n4_; have NB120_121 := n5_; have NB121_120 := n6_; clear n0_ n1_ n2_ n3_ n4_ n5_ n6_; clear hb hbox hg; have hnb19 := NB120_121.out; have hnc19 := NB121_120.out; have hcz20_0 : w18.cell? ⟨gb120, 0, none⟩ = some (.int .i64 a0_0) := (blk_cell BK120.out 0).trans rfl; have hcz20_1 : w18.cell? ⟨gb120, 1, none⟩ = some (.slice A0_1 l0_1.length c0_1) := (blk_cell BK120.out 1).trans rfl; have hcz20_2 : w18.cell? ⟨gb120, 2, none⟩ = some (.int .u64 a0_2) := (blk_cell BK120.out 2).trans rfl; have hfz20_0 := blk_frozen BK120.out 0; have hfz20_1 := blk_frozen BK120.out 1; have hfz20_2 := blk_frozen BK120.out 2; have hcz21_0 : w18.cell? ⟨gb121, 0, none⟩ = some (.int .i64 a1_0) := (blk_cell BK121.out 0).trans rfl; have hcz21_1 : w18.cell? ⟨gb121, 1, none⟩ = some (.slice A1_1 l1_1.length c1_1) := (blk_cell BK121.out 1).trans rfl; have hcz21_2 : w18.cell? ⟨gb121, 2, none⟩ = some (.int .u64 a1_2) := (blk_cell BK121.out 2).trans rfl; have hfz21_0 := blk_frozen BK121.out 0; have hfz21_1 := blk_frozen BK121.out 1; have hfz21_2 := blk_frozen BK121.out 2))
    go_ret
    exact ⟨by first | rfl | (simp [errW_none, errW_some] <;> rfl) | (simp [*, errW_none, errW_some] <;> rfl), by repeat (first | (with_reducible first | exact HB.out | apply below_alloc | apply pw_below_drewN | apply below_drew1 | refine below_set ?_ GE120.out | refine below_set ?_ GE121.out) | exact HB.out)⟩

/-! ### merkhetref02_Count: function 41 -/
def merkhetref02_Count.f (a0 : Int) : Option (Int) := if a0 < 0 then (some 0) else (if a0 > 8 then (some 8) else (some a0))
set_option maxHeartbeats 8000000 in
set_option maxRecDepth 100000 in
theorem merkhetref02_Count.calls (a0 : Int) (r : Int) (w : World) (h : merkhetref02_Count.f a0 = some r) :
    Calls Try.prog 41 #[.int .i64 a0] w fun e w' => e = .returned (.int .i64 r) ∧ Drawn0 w w' := by
  have H : (if a0 < 0 then (some 0) else (if a0 > 8 then (some 8) else (some a0))) = some r := h
  clear h
  by_cases c2 : a0 < 0
  · rw [if_pos c2] at H
    have c2b0 : decide (a0 < 0) = true := decide_eq_true c2
    clear c2
    obtain rfl := Option.some.inj H
    go_enter Try.func41, Try.ntmps41
    go_wp2
    go_ret
    exact ⟨by first | rfl | (simp; done) | (simp [*]; done), by repeat (first | exact Drawn0.refl _ | apply Drawn0.step)⟩
  · rw [if_neg c2] at H
    have c2b0 : decide (a0 < 0) = false := decide_eq_false c2
    clear c2
    by_cases c3 : a0 > 8
    · rw [if_pos c3] at H
      have c3b0 : decide (8 < a0) = true := decide_eq_true c3
      clear c3
      obtain rfl := Option.some.inj H
      go_enter Try.func41, Try.ntmps41
      go_wp2
      go_ret
      exact ⟨by first | rfl | (simp; done) | (simp [*]; done), by repeat (first | exact Drawn0.refl _ | apply Drawn0.step)⟩
    · rw [if_neg c3] at H
      have c3b0 : decide (8 < a0) = false := decide_eq_false c3
      clear c3
      obtain rfl := Option.some.inj H
      go_enter Try.func41, Try.ntmps41
      go_wp2
      go_ret
      exact ⟨by first | rfl | (simp; done) | (simp [*]; done), by repeat (first | exact Drawn0.refl _ | apply Drawn0.step)⟩

/-! ### merkhetref02_Get: function 22 -/
mutual
def merkhetref02_Get.j0 : Nat → ByteArray → Int → Int → Bool → Option (Int × Bool)
  | 0, _, _, _, _ => none
  | k + 1, x0, x1, x8, x29 => if x29 = true then (some (0, false)) else (merkhetref02_Get.l0 k x0 x1 x8 0 1 0)
def merkhetref02_Get.l0 : Nat → ByteArray → Int → Int → Int → Int → Int → Option (Int × Bool)
  | 0, _, _, _, _, _, _ => none
  | k + 1, x0, x1, x8, x9, x10, x11 => if x11 < x8 then (if 0 ≤ (wrap64 (x1 + x11)) then (if (wrap64 (x1 + x11)) < (x0.size : Int) then (merkhetref02_Get.l0 k x0 x1 x8 (IntKind.u64.wrap (x9 + (IntKind.u64.wrap (x10 * (IntKind.u64.wrap (bt x0 (wrap64 (x1 + x11)))))))) (IntKind.u64.wrap (x10 * 256)) (wrap64 (x11 + 1))) else (none)) else (none)) else (some (x9, true))
end
def merkhetref02_Get.f (k : Nat) (a0 : ByteArray) (a1 : Int) (a2 : Int) : Option (Int × Bool) := (merkhetref02_Count.f a2).bind fun t122 => (if a1 < 0 then (merkhetref02_Get.j0 k a0 a1 t122 true) else (if a1 > (a0.size : Int) then (merkhetref02_Get.j0 k a0 a1 t122 true) else (merkhetref02_Get.j0 k a0 a1 t122 (decide ((wrap64 ((a0.size : Int) - a1)) < t122)))))
theorem merkhetref02_Get.mono_l : ∀ k, (∀ y0 y1 y2 y3, LeO (merkhetref02_Get.j0 k y0 y1 y2 y3) (merkhetref02_Get.j0 (k + 1) y0 y1 y2 y3)) ∧ (∀ y0 y1 y2 y3 y4 y5, LeO (merkhetref02_Get.l0 k y0 y1 y2 y3 y4 y5) (merkhetref02_Get.l0 (k + 1) y0 y1 y2 y3 y4 y5))
  | 0 => ⟨fun _ _ _ _ r h => by simp [merkhetref02_Get.j0] at h, fun _ _ _ _ _ _ r h => by simp [merkhetref02_Get.l0] at h⟩
  | k + 1 => by
    obtain ⟨ih0, ih1⟩ := merkhetref02_Get.mono_l k
    refine ⟨?_, ?_⟩
    · intro y0 y1 y2 y3
      unfold merkhetref02_Get.j0
      repeat' first
      | (with_reducible exact ih0 _ _ _ _)
      | (with_reducible exact ih1 _ _ _ _ _ _)
      | (with_reducible exact LeO.refl _)
      | (with_reducible exact LeO.none _)
      | (with_reducible refine LeO.ite ?_ ?_)
      | (with_reducible refine LeO.bind ?_ (fun _ => ?_))
      | exact ih0 _ _ _ _
      | exact ih1 _ _ _ _ _ _
      | exact LeO.none _
      | refine LeO.ite ?_ ?_
      | refine LeO.bind ?_ (fun _ => ?_)
    · intro y0 y1 y2 y3 y4 y5
      unfold merkhetref02_Get.l0
      repeat' first
      | (with_reducible exact ih0 _ _ _ _)
      | (with_reducible exact ih1 _ _ _ _ _ _)
      | (with_reducible exact LeO.refl _)
      | (with_reducible exact LeO.none _)
      | (with_reducible refine LeO.ite ?_ ?_)
      | (with_reducible refine LeO.bind ?_ (fun _ => ?_))
      | exact ih0 _ _ _ _
      | exact ih1 _ _ _ _ _ _
      | exact LeO.none _
      | refine LeO.ite ?_ ?_
      | refine LeO.bind ?_ (fun _ => ?_)
theorem merkhetref02_Get.mono : ∀ a0 a1 a2 k, LeO (merkhetref02_Get.f k a0 a1 a2) (merkhetref02_Get.f (k + 1) a0 a1 a2) := by
  intro a0 a1 a2 k
  obtain ⟨ih0, ih1⟩ := merkhetref02_Get.mono_l k
  unfold merkhetref02_Get.f
  repeat' first
      | (with_reducible exact ih0 _ _ _ _)
      | (with_reducible exact ih1 _ _ _ _ _ _)
      | (with_reducible exact LeO.refl _)
      | (with_reducible exact LeO.none _)
      | (with_reducible refine LeO.ite ?_ ?_)
      | (with_reducible refine LeO.bind ?_ (fun _ => ?_))
      | exact ih0 _ _ _ _
      | exact ih1 _ _ _ _ _ _
      | exact LeO.none _
      | refine LeO.ite ?_ ?_
      | refine LeO.bind ?_ (fun _ => ?_)
set_option maxHeartbeats 8000000 in
set_option maxRecDepth 100000 in
theorem merkhetref02_Get.calls (k : Nat) (a0 : ByteArray) (a1 : Int) (a2 : Int) (r1 : Int) (r2 : Bool) (w : World) (h : merkhetref02_Get.f k a0 a1 a2 = some (r1, r2)) :
    Calls Try.prog 22 #[.string a0, .int .i64 a1, .int .i64 a2] w fun e w' => e = .returned (.tuple #[.int .u64 r1, .bool r2]) ∧ Drawn0 w w' := by
  have H : ((merkhetref02_Count.f a2).bind fun t122 => (if a1 < 0 then (merkhetref02_Get.j0 k a0 a1 t122 true) else (if a1 > (a0.size : Int) then (merkhetref02_Get.j0 k a0 a1 t122 true) else (merkhetref02_Get.j0 k a0 a1 t122 (decide ((wrap64 ((a0.size : Int) - a1)) < t122)))))) = some (r1, r2) := h
  clear h
  replace H := Option.bind_eq_some_iff.mp H
  obtain ⟨t122, A40, H⟩ := H
  replace H : (if a1 < 0 then (merkhetref02_Get.j0 k a0 a1 t122 true) else (if a1 > (a0.size : Int) then (merkhetref02_Get.j0 k a0 a1 t122 true) else (merkhetref02_Get.j0 k a0 a1 t122 (decide ((wrap64 ((a0.size : Int) - a1)) < t122))))) = some (r1, r2) := H
  have A4 := Aside0.mk A40
  clear A40
  have HC5 := Aside0.mk H
  clear H
  go_enter Try.func22, Try.ntmps22
  go_upto_region 2 with (first | ((with_reducible refine gate_callee (f := 41) rfl ?_); refine goesL_ (some 13) rfl rfl Try.func41 (by kernel_rfl) rfl #[.int .i64 a2] rfl (by (try simp only [List.map_toArray, List.map_cons, List.map_nil]); first | done | rfl | (simp only [List.length_drop, List.length_take]; rfl) | (rw [Go.Proofs.Ytknigpdglbknhaa.H.u64_id _ (by simp only [decide_eq_false_iff_not, decide_eq_true_eq, Nat.not_lt, Int.not_lt] at *; omega) (by simp only [decide_eq_false_iff_not, decide_eq_true_eq, Nat.not_lt, Int.not_lt] at *; omega)]; rfl)) ?_; (with_reducible refine (merkhetref02_Count.calls a2 t122 _ A4.out).mono ?_); rintro e w' ⟨rfl, ⟨nd, rfl⟩⟩; refine ⟨_, rfl, ?_⟩))
  (try simp only [Act.put, List.setIfInBounds_toArray, List.set_cons_zero, List.set_cons_succ])
  go_cut [29] (fun v29 wc => ∃ (kq : Nat) (x29_4 : Bool), v29 = .bool x29_4 ∧ Aside0 (merkhetref02_Get.j0 kq a0 a1 t122 x29_4 = some (r1, r2)) ∧ Aside0 (kq ≤ k) ∧ Drawn0 w wc)
  case first =>
    have H := HC5.out
    clear HC5
    by_cases c6 : a1 < 0
    · rw [if_pos c6] at H
      have c6b0 : decide (a1 < 0) = true := decide_eq_true c6
      clear c6
      (first | rw [c6b0] | (simp only [i64_w, i32_w]; rw [c6b0]) | skip)
      have H' := Aside0.mk H
      clear H
      go_wp2
      go_meet
      case rel => exact ⟨_, (true), (by first | rfl | (simp; done) | (simp [*]; done)), H', ⟨by first | omega | exact Nat.le_refl _⟩, by repeat (first | exact Drawn0.refl _ | apply Drawn0.step)⟩
    · rw [if_neg c6] at H
      have c6b0 : decide (a1 < 0) = false := decide_eq_false c6
      clear c6
      (first | rw [c6b0] | (simp only [i64_w, i32_w]; rw [c6b0]) | skip)
      by_cases c7 : a1 > (a0.size : Int)
      · rw [if_pos c7] at H
        have c7b0 : decide ((a0.size : Int) < a1) = true := decide_eq_true c7
        clear c7
        have H' := Aside0.mk H
        clear H
        go_wp2
        go_meet
        case rel => exact ⟨_, (true), (by first | rfl | (simp; done) | (simp [*]; done)), H', ⟨by first | omega | exact Nat.le_refl _⟩, by repeat (first | exact Drawn0.refl _ | apply Drawn0.step)⟩
      · rw [if_neg c7] at H
        have c7b0 : decide ((a0.size : Int) < a1) = false := decide_eq_false c7
        clear c7
        have H' := Aside0.mk H
        clear H
        go_wp2
        go_meet
        case rel => exact ⟨_, (decide ((wrap64 ((a0.size : Int) - a1)) < t122)), (by first | rfl | (simp; done) | (simp [*]; done)), H', ⟨by first | omega | exact Nat.le_refl _⟩, by repeat (first | exact Drawn0.refl _ | apply Drawn0.step)⟩
  case rest =>
    clear HC5
    try clear c2
    try clear p2
    try clear c4
    try clear c6
    try clear c6b0
    try clear p6
    try clear c7
    try clear c7b0
    obtain ⟨kq, x29_4, rfl, HA, HJ4, ⟨mc4, rfl⟩⟩ := hcut
    cases kq with
    | zero => exact absurd HA.out (by simp [merkhetref02_Get.j0])
    | succ kj4 =>
      have H := HA.out
      clear HA
      simp only [merkhetref02_Get.j0] at H
      by_cases c8 : x29_4 = true
      · subst c8
        have H1 : (some (0, false)) = some (r1, r2) := by rw [if_pos rfl] at H; exact H
        clear H
        have H := H1
        clear H1
        simp only [Option.some.injEq, Prod.mk.injEq] at H
        obtain ⟨rfl, rfl⟩ := H
        go_wp2
        go_ret2
        exact ⟨by first | rfl | (simp; done) | (simp [*]; done), by repeat (first | exact Drawn0.refl _ | apply Drawn0.step)⟩
      · replace c8 := Bool.eq_false_iff.mpr c8
        subst c8
        have H1 : (merkhetref02_Get.l0 kj4 a0 a1 t122 0 1 0) = some (r1, r2) := by rw [if_neg (show ¬ (false = true) by decide)] at H; exact H
        clear H
        have H := H1
        clear H1
        have H' := Aside0.mk H
        clear H
        go_wp2
        go_loopg [9, 10, 11] kj4 (fun kq v9 v10 v11 w' => ∃ (x9_2 : Int) (x10_2 : Int) (x11_2 : Int), v9 = .int .u64 x9_2 ∧ v10 = .int .u64 x10_2 ∧ v11 = .int .i64 x11_2 ∧ Aside0 (merkhetref02_Get.l0 kq a0 a1 t122 x9_2 x10_2 x11_2 = some (r1, r2)) ∧ Aside0 (kq ≤ kj4) ∧ Drawn0 w w')
        case atStart => exact ⟨(0), (1), (0), (by first | rfl | (simp; done) | (simp [*]; done)), (by first | rfl | (simp; done) | (simp [*]; done)), (by first | rfl | (simp; done) | (simp [*]; done)), H', ⟨Nat.le_refl _⟩, by repeat (first | exact Drawn0.refl _ | apply Drawn0.step)⟩
        case round =>
          clear H'
          try clear c2
          try clear p2
          try clear c4
          try clear c6
          try clear c6b0
          try clear p6
          try clear c7
          try clear c7b0
          try clear c8
          try clear p2
          try clear p6
          obtain ⟨x9_2, x10_2, x11_2, rfl, rfl, rfl, HA, HK2, ⟨m2, rfl⟩⟩ := hrel
          cases gk with
          | zero => exact absurd HA.out (by simp [merkhetref02_Get.l0])
          | succ k2 =>
            have H := HA.out
            clear HA
            simp only [merkhetref02_Get.l0] at H
            by_cases c9 : x11_2 < t122
            · rw [if_pos c9] at H
              have c9b0 : decide (x11_2 < t122) = true := decide_eq_true c9
              clear c9
              obtain ⟨ji10, hji10⟩ : ∃ j_ : Int, (wrap64 (a1 + x11_2)) = j_ := ⟨_, rfl⟩
              replace H : (if 0 ≤ (ji10) then (if (ji10) < (a0.size : Int) then (merkhetref02_Get.l0 k2 a0 a1 t122 (IntKind.u64.wrap (x9_2 + (IntKind.u64.wrap (x10_2 * (IntKind.u64.wrap (bt a0 (ji10))))))) (IntKind.u64.wrap (x10_2 * 256)) (wrap64 (x11_2 + 1))) else (none)) else (none)) = some (r1, r2) := by first | (rw [hji10] at H; exact H) | (simp only [hji10] at H ⊢; exact H)
              have hji10w : (IntKind.i64.wrap (a1 + x11_2)) = ji10 := (i64_w _).trans hji10
              by_cases c11 : 0 ≤ (ji10)
              · rw [if_pos c11] at H
                have c11b0 : decide (0 ≤ (ji10)) = true := decide_eq_true c11
                clear c11
                by_cases c12 : (ji10) < (a0.size : Int)
                · rw [if_pos c12] at H
                  have c12b0 : decide ((ji10) < (a0.size : Int)) = true := decide_eq_true c12
                  clear c12
                  have H' := Aside0.mk H
                  clear H
                  have p13 : 0 ≤ ((ji10) : Int) := of_decide_eq_true (by first | (with_reducible assumption) | assumption)
                  have q13 : (ji10) < (a0.size : Int) := of_decide_eq_true (by first | (with_reducible assumption) | assumption)
                  have hx13 := bt_at a0 (ji10)
                  replace p13 := eq_true p13
                  replace q13 := eq_true q13
                  go_wp2
                  go_roundg k2
                  case measure => have := HJ4.out; have := HK2.out; omega
                  case rel => exact ⟨(IntKind.u64.wrap (x9_2 + (IntKind.u64.wrap (x10_2 * (IntKind.u64.wrap (bt a0 (ji10))))))), (IntKind.u64.wrap (x10_2 * 256)), (wrap64 (x11_2 + 1)), (by first | rfl | (simp; done) | (simp only [← hji10] <;> (first | rfl | simp)) | (simp [*]; done)), (by first | rfl | (simp; done) | (simp [*]; done)), (by first | rfl | (simp; done) | (simp [*]; done)), H', ⟨by have := HJ4.out; have := HK2.out; omega⟩, by repeat (first | exact Drawn0.refl _ | apply Drawn0.step)⟩
                · rw [if_neg c12] at H
                  exact absurd H (by simp)
              · rw [if_neg c11] at H
                exact absurd H (by simp)
            · rw [if_neg c9] at H
              have c9b0 : decide (x11_2 < t122) = false := decide_eq_false c9
              clear c9
              simp only [Option.some.injEq, Prod.mk.injEq] at H
              obtain ⟨rfl, rfl⟩ := H
              go_wp2
              go_ret2
              exact ⟨by first | rfl | (simp; done) | (simp [*]; done), by repeat (first | exact Drawn0.refl _ | apply Drawn0.step)⟩

/-! ### merkhetref23_Get: function 36 -/
def merkhetref23_Get_b (s : ByteArray) : List Int := s.data.toList.map fun x => (x.toNat : Int)
def merkhetref23_Get.f (k : Nat) (s : ByteArray) : Option (Int × List Int × Int × Int) :=
  if s.size = 0 then some (0, [], 0, 2) else
  if bt s 0 < 1 ∨ bt s 0 > 5 then some (0, [], 0, 4)
  else if bt s 0 = 1 then (if 4097 < s.size then some (0, [], 0, 10) else some (1, merkhetref23_Get_b (s.extract 1 s.size), 0, 0))
  else if bt s 0 = 4 then (if s.size < 9 then some (0, [], 0, 2) else if 9 < s.size then some (0, [], 0, 3) else (merkhetref02_Get.f k s 1 8).bind fun g => some (4, [], g.1, 0))
  else if 1 < s.size then some (0, [], 0, 3) else some (bt s 0, [], 0, 0)
theorem merkhetref23_Get.mono : ∀ a0 k, LeO (merkhetref23_Get.f k a0) (merkhetref23_Get.f (k + 1) a0) := by
  intro a0 k
  exact LeO.ite (LeO.refl _) (LeO.ite (LeO.refl _) (LeO.ite (LeO.refl _) (LeO.ite (LeO.ite (LeO.refl _) (LeO.ite (LeO.refl _) (LeO.bind (merkhetref02_Get.mono _ _ _ _) (fun _ => LeO.refl _)))) (LeO.refl _))))
theorem merkhetref23_Get_row (s : ByteArray) (w : World) (cap : Nat) (fr : Nat × Nat) (hl : s.size ≤ 9223372036854775807) : Kd.C (Kd.int .u8) (w.alloc (.cells (bytesRow s cap) 5 fr)) (some ⟨w.heap.size, 0, none⟩) (merkhetref23_Get_b s).length (merkhetref23_Get_b s) := by
  have hlen : (merkhetref23_Get_b s).length = s.size := by unfold merkhetref23_Get_b; rw [List.length_map]; rfl
  refine Kd.C_of_reads (d := (0 : Int)) (h1 := fun _ => rfl) ⟨rfl, by omega, fun _ => ⟨_, rfl, fun j hj => ?_⟩⟩
  rw [add_plain, World.cell?_alloc_mark, bytesRow_at s cap j (by rw [hlen] at hj; exact hj)]
  have hj2 : j < s.data.size := by rw [hlen] at hj; exact hj
  show some _ = some (Value.int .u8 ((List.map _ _).getD j 0))
  rw [List.getD_eq_getElem?_getD, List.getElem?_map, Array.getElem?_toList, Array.getElem?_eq_getElem hj2]
  rfl
set_option maxHeartbeats 8000000 in
set_option maxRecDepth 100000 in
theorem merkhetref23_Get.calls (k : Nat) (s : ByteArray) (r1 : Int) (r2 : List Int) (r3 : Int) (r4 : Int) (w : World) (h : merkhetref23_Get.f k s = some (r1, r2, r3, r4)) :
    Calls Try.prog 36 #[.string s] w fun e w' => ∃ (A : Option Addr) (c : Nat), e = .returned (.tuple #[.agg #[.int .i64 r1, .slice A r2.length c, .int .u64 r3], .int .i64 r4]) ∧ r2.length ≤ c ∧ Kd.C (Kd.int .u8) w' A r2.length r2 ∧ Below w.heap.size w w' := by
  have hu_ := Try.underlying54
  unfold merkhetref23_Get.f at h
  by_cases c0_ : s.size = 0
  case pos =>
    rw [if_pos c0_] at h
    have he : s = ⟨#[]⟩ := by
      cases s with
      | mk d => simp [ByteArray.size] at c0_; subst c0_; rfl
    subst he
    clear c0_
    obtain ⟨rfl, rfl, rfl, rfl⟩ : 0 = r1 ∧ [] = r2 ∧ 0 = r3 ∧ 2 = r4 := by simpa using h
    clear h
    go_enter Try.func36, Try.ntmps36
    go_wp2_with (fail)
    refine bodyPost_ret (results_ct rfl _ _ w.heap.size 54 _ (0, 0) _ rfl (blk_new w _) Try.underlying54 rfl (by kernel_rfl)) rfl ?_
    first | exact ⟨none, 0, rfl, Nat.le_refl _, Kd.C_nil _ _, below_alloc (Below.refl _ _) _⟩ | exact ⟨none, ⟨0, rfl⟩, Kd.C_nil _ _, below_alloc (Below.refl _ _) _⟩
  rw [if_neg c0_] at h
  have hidx : ∀ W : World, Sem.run Try.prog (Instr.index 9 (.string s) (.int .i64 0)) W = .ok (.int .u8 (bt s 0)) W := by
    intro W
    rw [run_index_string W _ _ _ _ Try.underlying9, dif_pos ⟨by omega, by omega⟩, bt_at s 0 _]
  have e1 : wrap64 (bt s 0) = bt s 0 := by
    have := bt_range s 0
    unfold wrap64; omega
  have hemp : s.toList.isEmpty = false := by
    cases hL : s.toList with
    | cons x r => rfl
    | nil =>
      exfalso
      have h2 := congrArg List.length hL
      rw [Go.Proofs.Ytknigpdglbknhaa.H.ba_toList] at h2
      rw [List.length_nil] at h2
      exact c0_ h2
  by_cases c1 : bt s 0 < 1 ∨ bt s 0 > 5
  · rw [if_pos c1] at h
    by_cases c1a : wrap64 (bt s 0) < 1
    · obtain ⟨rfl, rfl, rfl, rfl⟩ : 0 = r1 ∧ [] = r2 ∧ 0 = r3 ∧ 4 = r4 := by simpa using h
      clear h e1 c1
      go_enter Try.func36, Try.ntmps36
      go_wp2_with (fail)
      refine bodyPost_ret (results_ct rfl _ _ w.heap.size 54 _ (0, 0) _ rfl (blk_new w _) Try.underlying54 rfl (by kernel_rfl)) rfl ?_
      first | exact ⟨none, 0, rfl, Nat.le_refl _, Kd.C_nil _ _, below_alloc (Below.refl _ _) _⟩ | exact ⟨none, ⟨0, rfl⟩, Kd.C_nil _ _, below_alloc (Below.refl _ _) _⟩
    · have c1b : 5 < wrap64 (bt s 0) := by rw [e1] at c1a ⊢; omega
      obtain ⟨rfl, rfl, rfl, rfl⟩ : 0 = r1 ∧ [] = r2 ∧ 0 = r3 ∧ 4 = r4 := by simpa using h
      clear h e1 c1
      go_enter Try.func36, Try.ntmps36
      go_wp2_with (fail)
      refine bodyPost_ret (results_ct rfl _ _ w.heap.size 54 _ (0, 0) _ rfl (blk_new w _) Try.underlying54 rfl (by kernel_rfl)) rfl ?_
      first | exact ⟨none, 0, rfl, Nat.le_refl _, Kd.C_nil _ _, below_alloc (Below.refl _ _) _⟩ | exact ⟨none, ⟨0, rfl⟩, Kd.C_nil _ _, below_alloc (Below.refl _ _) _⟩
  rw [if_neg c1] at h
  have c1a : ¬ wrap64 (bt s 0) < 1 := by rw [e1]; omega
  have c1b : ¬ 5 < wrap64 (bt s 0) := by rw [e1]; omega
  by_cases z1 : bt s 0 = 1
  · rw [if_pos z1] at h
    have z1b : wrap64 (bt s 0) = 1 := by rw [e1, z1]
    clear e1 c1 z1 c1a c1b
    by_cases g1 : 4097 < s.size
    · rw [if_pos g1] at h
      have g1b : (4097 : Int) < (s.size : Int) := by omega
      obtain ⟨rfl, rfl, rfl, rfl⟩ : 0 = r1 ∧ [] = r2 ∧ 0 = r3 ∧ 10 = r4 := by simpa using h
      clear h
      go_enter Try.func36, Try.ntmps36
      go_wp2_with (fail)
      refine bodyPost_ret (results_ct rfl _ _ w.heap.size 54 _ (0, 0) _ rfl (blk_new w _) Try.underlying54 rfl (by kernel_rfl)) rfl ?_
      first | exact ⟨none, 0, rfl, Nat.le_refl _, Kd.C_nil _ _, below_alloc (Below.refl _ _) _⟩ | exact ⟨none, ⟨0, rfl⟩, Kd.C_nil _ _, below_alloc (Below.refl _ _) _⟩
    · rw [if_neg g1] at h
      have g1b : ¬ (4097 : Int) < (s.size : Int) := by omega
      obtain ⟨rfl, rfl, rfl, rfl⟩ : 1 = r1 ∧ merkhetref23_Get_b (s.extract 1 s.size) = r2 ∧ 0 = r3 ∧ 0 = r4 := by simpa using h
      clear h
      have hsx : (s.extract 1 s.size).size = s.size - 1 := by rw [ByteArray.size_extract]; omega
      have hlen : (merkhetref23_Get_b (s.extract 1 s.size)).length = s.size - 1 := by rw [← hsx]; unfold merkhetref23_Get_b; rw [List.length_map]; rfl
      obtain ⟨w6, c6, hcv, hC6, hB6, hc6⟩ : ∃ (w6 : World) (c6 : Nat), Sem.run Try.prog (convert 9 22 (.string (s.extract 1 s.size))) (w.alloc (.cells #[.int .i64 0, .slice none 0 0, .int .u64 0] 54 (0, 0))) = .ok (.slice (some ⟨(w.alloc (.cells #[.int .i64 0, .slice none 0 0, .int .u64 0] 54 (0, 0))).heap.size, 0, none⟩) (s.size - 1) c6) w6 ∧ Kd.C (Kd.int .u8) w6 (some ⟨(w.alloc (.cells #[.int .i64 0, .slice none 0 0, .int .u64 0] 54 (0, 0))).heap.size, 0, none⟩) (merkhetref23_Get_b (s.extract 1 s.size)).length (merkhetref23_Get_b (s.extract 1 s.size)) ∧ Below (w.alloc (.cells #[.int .i64 0, .slice none 0 0, .int .u64 0] 54 (0, 0))).heap.size (w.alloc (.cells #[.int .i64 0, .slice none 0 0, .int .u64 0] 54 (0, 0))) w6 ∧ (merkhetref23_Get_b (s.extract 1 s.size)).length ≤ c6 := by
        have h1 := run_bytes_of_string (P := Try.prog) (w.alloc (.cells #[.int .i64 0, .slice none 0 0, .int .u64 0] 54 (0, 0))) 9 22 5 (s.extract 1 s.size) Try.underlying9 Try.underlying22 Try.underlying5
        rw [hsx] at h1
        refine ⟨_, _, h1, ?_, ?_, ?_⟩
        · exact merkhetref23_Get_row (s.extract 1 s.size) (w.alloc (.cells #[.int .i64 0, .slice none 0 0, .int .u64 0] 54 (0, 0))).drew _ _ (by omega)
        · exact below_alloc (below_drew (Below.refl _ _)) _
        · rw [hlen]; exact grownCap_ge _ _ _ _
      rw [World.size_alloc] at hC6
      have HC6 := Aside0.mk hC6
      have HB6 := Aside0.mk (below_step (below_alloc (Below.refl w.heap.size w) (.cells #[.int .i64 0, .slice none 0 0, .int .u64 0] 54 (0, 0))) hB6)
      have HK6 := Aside0.mk (blk_below (blk_new w (.cells #[.int .i64 0, .slice none 0 0, .int .u64 0] 54 (0, 0))) hB6)
      have hcl : c6 ≥ (merkhetref23_Get_b (s.extract 1 s.size)).length := hc6
      clear hC6 hB6 hc6
      have k0 : w6.cell? ⟨w.heap.size, 0, none⟩ = some (.int .i64 0) := (blk_cell HK6.out 0).trans rfl
      have f0 := blk_frozen HK6.out 0
      have k1 : w6.cell? ⟨w.heap.size, 1, none⟩ = some (.slice none 0 0) := (blk_cell HK6.out 1).trans rfl
      have f1 := blk_frozen HK6.out 1
      have k2 : w6.cell? ⟨w.heap.size, 2, none⟩ = some (.int .u64 0) := (blk_cell HK6.out 2).trans rfl
      have f2 := blk_frozen HK6.out 2
      have HLN := Aside0.mk hlen
      have HCL := Aside0.mk hcl
      clear hlen hcl
      go_enter Try.func36, Try.ntmps36
      go_wp2_with (fail)
      refine bodyPost_ret (results_ct rfl _ _ w.heap.size 54 _ (0, 0) _ rfl (blk_set (blk_set (blk_set HK6.out 0 _) 1 _) 2 _) Try.underlying54 rfl (by kernel_rfl)) rfl ?_
      exact ⟨some ⟨w.heap.size + 1, 0, none⟩, c6, by rw [HLN.out]; first | rfl | (simp; done) | (simp; rfl), HCL.out, Kd.C_keep (0 : Int) HC6.out (KeepBut.set_ (KeepBut.set_ (KeepBut.set_ (KeepBut.refl _ w.heap.size none) 0 _) 1 _) 2 _) (fun ad hA _ => by cases hA; simp), below_set (below_set (below_set HB6.out (Nat.le_refl _)) (Nat.le_refl _)) (Nat.le_refl _)⟩
  rw [if_neg z1] at h
  have z1b : ¬ wrap64 (bt s 0) = 1 := by rw [e1]; exact z1
  by_cases z4 : bt s 0 = 4
  · rw [if_pos z4] at h
    have z4b : wrap64 (bt s 0) = 4 := by rw [e1, z4]
    clear e1 c1 z4 z1 c1a c1b z1b
    by_cases g1 : s.size < 9
    · rw [if_pos g1] at h
      have g1b : (s.size : Int) < 9 := by omega
      obtain ⟨rfl, rfl, rfl, rfl⟩ : 0 = r1 ∧ [] = r2 ∧ 0 = r3 ∧ 2 = r4 := by simpa using h
      clear h
      go_enter Try.func36, Try.ntmps36
      go_wp2_with (fail)
      refine bodyPost_ret (results_ct rfl _ _ w.heap.size 54 _ (0, 0) _ rfl (blk_new w _) Try.underlying54 rfl (by kernel_rfl)) rfl ?_
      first | exact ⟨none, 0, rfl, Nat.le_refl _, Kd.C_nil _ _, below_alloc (Below.refl _ _) _⟩ | exact ⟨none, ⟨0, rfl⟩, Kd.C_nil _ _, below_alloc (Below.refl _ _) _⟩
    rw [if_neg g1] at h
    have g1b : ¬ (s.size : Int) < 9 := by omega
    by_cases g2 : 9 < s.size
    · rw [if_pos g2] at h
      have g2b : (9 : Int) < (s.size : Int) := by omega
      obtain ⟨rfl, rfl, rfl, rfl⟩ : 0 = r1 ∧ [] = r2 ∧ 0 = r3 ∧ 3 = r4 := by simpa using h
      clear h
      go_enter Try.func36, Try.ntmps36
      go_wp2_with (fail)
      refine bodyPost_ret (results_ct rfl _ _ w.heap.size 54 _ (0, 0) _ rfl (blk_new w _) Try.underlying54 rfl (by kernel_rfl)) rfl ?_
      first | exact ⟨none, 0, rfl, Nat.le_refl _, Kd.C_nil _ _, below_alloc (Below.refl _ _) _⟩ | exact ⟨none, ⟨0, rfl⟩, Kd.C_nil _ _, below_alloc (Below.refl _ _) _⟩
    · rw [if_neg g2] at h
      have g2b : ¬ (9 : Int) < (s.size : Int) := by omega
      obtain ⟨⟨v, ok⟩, hg, h⟩ := Option.bind_eq_some_iff.mp h
      obtain ⟨rfl, rfl, rfl, rfl⟩ : 4 = r1 ∧ [] = r2 ∧ v = r3 ∧ 0 = r4 := by simpa using h
      have HG := Aside0.mk hg
      clear h hg
      go_enter Try.func36, Try.ntmps36
      go_wp2_with (fail)
      refine (merkhetref02_Get.calls k s 1 8 v ok _ HG.out).mono ?_
      rintro e w6 ⟨rfl, hd⟩
      have HB6 := Aside0.mk (below_step (below_alloc (Below.refl w.heap.size w) (.cells #[.int .i64 0, .slice none 0 0, .int .u64 0] 54 (0, 0))) hd.below)
      have HK6 := Aside0.mk (blk_below (blk_new w (.cells #[.int .i64 0, .slice none 0 0, .int .u64 0] 54 (0, 0))) hd.below)
      clear hd
      have k0 : w6.cell? ⟨w.heap.size, 0, none⟩ = some (.int .i64 0) := (blk_cell HK6.out 0).trans rfl
      have f0 := blk_frozen HK6.out 0
      have k1 : w6.cell? ⟨w.heap.size, 1, none⟩ = some (.slice none 0 0) := (blk_cell HK6.out 1).trans rfl
      have f1 := blk_frozen HK6.out 1
      have k2 : w6.cell? ⟨w.heap.size, 2, none⟩ = some (.int .u64 0) := (blk_cell HK6.out 2).trans rfl
      have f2 := blk_frozen HK6.out 2
      go_wp2_with (fail)
      refine bodyPost_ret (results_ct rfl _ _ w.heap.size 54 _ (0, 0) _ rfl (blk_set (blk_set (blk_set HK6.out 0 _) 1 _) 2 _) Try.underlying54 rfl (by kernel_rfl)) rfl ?_
      exact ⟨none, 0, rfl, Nat.le_refl _, Kd.C_nil _ _, below_set (below_set (below_set HB6.out (Nat.le_refl _)) (Nat.le_refl _)) (Nat.le_refl _)⟩
  rw [if_neg z4] at h
  have z4b : ¬ wrap64 (bt s 0) = 4 := by rw [e1]; exact z4
  clear z1 z4 c1
  by_cases g1 : 1 < s.size
  · rw [if_pos g1] at h
    have g1b : (1 : Int) < (s.size : Int) := by omega
    clear e1
    obtain ⟨rfl, rfl, rfl, rfl⟩ : 0 = r1 ∧ [] = r2 ∧ 0 = r3 ∧ 3 = r4 := by simpa using h
    clear h
    go_enter Try.func36, Try.ntmps36
    go_wp2_with (fail)
    refine bodyPost_ret (results_ct rfl _ _ w.heap.size 54 _ (0, 0) _ rfl (blk_new w _) Try.underlying54 rfl (by kernel_rfl)) rfl ?_
    first | exact ⟨none, 0, rfl, Nat.le_refl _, Kd.C_nil _ _, below_alloc (Below.refl _ _) _⟩ | exact ⟨none, ⟨0, rfl⟩, Kd.C_nil _ _, below_alloc (Below.refl _ _) _⟩
  · rw [if_neg g1] at h
    have g1b : ¬ (1 : Int) < (s.size : Int) := by omega
    rw [← e1] at h
    clear e1
    obtain ⟨rfl, rfl, rfl, rfl⟩ : wrap64 (bt s 0) = r1 ∧ [] = r2 ∧ 0 = r3 ∧ 0 = r4 := by simpa using h
    clear h
    go_enter Try.func36, Try.ntmps36
    go_wp2_with (fail)
    refine bodyPost_ret (results_ct rfl _ _ w.heap.size 54 _ (0, 0) _ rfl (blk_new w _) Try.underlying54 rfl (by kernel_rfl)) rfl ?_
    first | exact ⟨none, 0, rfl, Nat.le_refl _, Kd.C_nil _ _, below_alloc (Below.refl _ _) _⟩ | exact ⟨none, ⟨0, rfl⟩, Kd.C_nil _ _, below_alloc (Below.refl _ _) _⟩


end Go.Proofs.Ytknigpdglbknhaa.Q
