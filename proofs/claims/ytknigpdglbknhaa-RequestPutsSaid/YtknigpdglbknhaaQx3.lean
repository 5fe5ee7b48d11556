-- WRITTEN FOR THIS CLAIM by wip/tools/mp.py, a program of this project that drives the kit's print; the functions that the print does not take are this project's own texts.
import Derived.Test.YtknigpdglbknhaaQx0
import Derived.Test.YtknigpdglbknhaaQx1
import Derived.Test.YtknigpdglbknhaaQx2
namespace Go.Proofs.Ytknigpdglbknhaa.Q
open Go.RowKit Go.Proofs.YtknigpdglbknhaaW.PrintWords Go.Proofs.YtknigpdglbknhaaW.PrintLast Go.Proofs.YtknigpdglbknhaaW.PrintMore
attribute [local go_sem] max2_int min2_int max_two min_two max_three min_three max_four min_four   -- for this text's walks alone
set_option linter.unusedVariables false
set_option linter.unusedSimpArgs false

/-! ### request_Get: function 34 -/
def request_Get.f (k : Nat) (l0 : List Int) : Option (Int × List Int × Int × Int) :=
  if l0.length = 0 then some (0, [], 0, 2) else
  if wrap64 (rd l0 0) = 1 then (if 4097 < l0.length then some (0, [], 0, 10) else (slices_Clone_byte_byte.f (l0.drop 1)).bind fun b => some (1, b, 0, 0))
  else if wrap64 (rd l0 0) = 4 then ((pack_Get.f k (l0.drop 1) 0 8).bind fun g => if g.2 = true then (if l0.length < 9 then none else if 9 < l0.length then some (0, [], 0, 3) else some (4, [], g.1, 0)) else some (0, [], 0, 2))
  else if wrap64 (rd l0 0) = 2 ∨ wrap64 (rd l0 0) = 3 ∨ wrap64 (rd l0 0) = 5 then (if 1 < l0.length then some (0, [], 0, 3) else some (wrap64 (rd l0 0), [], 0, 0))
  else some (0, [], 0, 4)
theorem request_Get.mono : ∀ a0 k, LeO (request_Get.f k a0) (request_Get.f (k + 1) a0) := by
  intro a0 k
  exact LeO.ite (LeO.refl _) (LeO.ite (LeO.refl _) (LeO.ite (LeO.bind (pack_Get.mono _ _ _ _) (fun _ => LeO.refl _)) (LeO.refl _)))
set_option maxHeartbeats 8000000 in
set_option maxRecDepth 100000 in
theorem request_Get.calls (k : Nat) (A0 : Option Addr) (c0 : Nat) (l0 : List Int) (r1 : Int) (r2 : List Int) (r3 : Int) (r4 : Int) (w : World) (hr0 : Kd.C (Kd.int .u8) w A0 l0.length l0) (hc0 : l0.length ≤ c0) (h : request_Get.f k l0 = some (r1, r2, r3, r4)) :
    Calls Try.prog 34 #[.slice A0 l0.length c0] w fun e w' => ∃ v1_ : Value, e = .returned (.tuple #[.agg #[.int .i64 r1, v1_, .int .u64 r3], .int .i64 r4]) ∧ Kd.R (Kd.int .u8) 5 w' w.heap.size (fun _ => True) v1_ r2 ∧ Below w.heap.size w w' := by
  have hu_ := Try.underlying54
  have HR := Aside0.mk hr0
  have HC := Aside0.mk hc0
  have hmax := Kd.C_max hr0
  clear hr0 hc0
  unfold request_Get.f at h
  by_cases c0_ : l0.length = 0
  case pos =>
    rw [if_pos c0_] at h
    obtain ⟨rfl, rfl, rfl, rfl⟩ : 0 = r1 ∧ [] = r2 ∧ 0 = r3 ∧ 2 = r4 := by simpa using h
    have cb : ((l0.length : Int) == 0) = true := by rw [c0_]; rfl
    clear h c0_
    go_enter Try.func34, Try.ntmps34
    go_wp2_with (fail)
    refine bodyPost_ret (results_ct rfl _ _ w.heap.size 54 _ (0, 0) _ rfl (blk_new w _) Try.underlying54 rfl (by kernel_rfl)) rfl ?_
    exact ⟨_, rfl, Kd.R_nil _ _ _ _ _, below_alloc (Below.refl _ _) _⟩
  rw [if_neg c0_] at h
  have cb : ((l0.length : Int) == 0) = false := by rw [beq_eq_false_iff_ne]; omega
  have HH := Aside0.mk h
  obtain ⟨ad, e, hx⟩ := Kd.at_int HR.out 0 (by omega) (by omega)
  cases e
  rw [show ((0 : Int)).toNat = 0 from rfl, Addr.add_zero'] at hx
  have hq0 : (0 < l0.length) = True := eq_true (by omega)
  have HX := Aside0.mk hx
  clear h hx
  obtain ⟨i0_, hi0_, _, hsz_, _⟩ := info_parts info5
  obtain ⟨A5, hcut5, hA5, hC5⟩ := print_drop_of (P := Try.prog) (Value.int .u8) 0 22 5 .i64 Try.underlying22 hi0_ hsz_ (some ad) c0 l0 1 (by omega) (by omega) HC.out
  have HR5 := Aside0.mk (Kd.C_of_reads (h1 := fun _ => rfl) (hA5 _ (Kd.reads_of_C HR.out)))
  have HC5 := Aside0.mk hC5
  simp only [show Int.toNat 1 = 1 from rfl, List.length_drop] at hcut5
  clear hA5 hC5 hi0_ hsz_
  have HB1 := Aside0.mk (below_alloc (Below.refl w.heap.size w) (.cells #[.int .i64 0, .slice none 0 0, .int .u64 0] 54 (0, 0)))
  have HK1 := Aside0.mk (blk_new w (.cells #[.int .i64 0, .slice none 0 0, .int .u64 0] 54 (0, 0)))
  go_enter Try.func34, Try.ntmps34
  go_wp2_with (fail)
  generalize hW : w.alloc (.cells #[.int .i64 0, .slice none 0 0, .int .u64 0] 54 (0, 0)) = W1 at HB1 HK1 ⊢
  clear hW
  have hx1 := (HB1.out.cell (World.block_lt_of_cell? w _ HX.out)).trans HX.out
  refine start_ (n := 10) (S := fun w' => w'.cell? ad = some (.int .u8 (rd l0 0))) (ds := []) #[false, false, false, false, false, false, false, false, false, false] (by kernel_rfl) rfl rfl (hx1) (fun hHeld => ?_)
  refine pure_ (i := 0) (N := some 12) (v := ?_) (a' := ?_) #[true, false, false, false, false, false, false, false, false, false] rfl rfl (by kernel_rfl) (fun _ _ _ h => h) (Or.inl ⟨by rfl, ?_⟩) ?_ ?_
  rotate_left
  · intro w'
    go_simp
    with_reducible rfl
  rotate_left
  · simp only [Act.put, List.setIfInBounds_toArray, List.set_cons_zero, List.set_cons_succ, i64_w, i32_w]
    rfl
  refine pure_ (i := 1) (N := some 13) (v := ?_) (a' := ?_) #[true, true, false, false, false, false, false, false, false, false] rfl rfl (by kernel_rfl) (fun _ _ _ h => h) (Or.inl ⟨by rfl, ?_⟩) ?_ ?_
  rotate_left
  · intro w'
    go_simp
    with_reducible rfl
  rotate_left
  · simp only [Act.put, List.setIfInBounds_toArray, List.set_cons_zero, List.set_cons_succ, i64_w, i32_w]
    rfl
  refine pure_ (i := 5) (N := some 17) (v := ?_) (a' := ?_) #[true, true, false, false, false, true, false, false, false, false] rfl rfl (by kernel_rfl) (fun _ _ _ h => h) (Or.inl ⟨by rfl, ?_⟩) ?_ ?_
  rotate_left
  · intro w'
    go_simp
    with_reducible rfl
  rotate_left
  · simp only [Act.put, List.setIfInBounds_toArray, List.set_cons_zero, List.set_cons_succ, i64_w, i32_w]
    rfl
  refine pure_ (i := 6) (N := some 18) (v := ?_) (a' := ?_) #[true, true, false, false, false, true, true, false, false, false] rfl rfl (by kernel_rfl) (fun _ _ _ h => h) (Or.inl ⟨by rfl, ?_⟩) ?_ ?_
  rotate_left
  · intro w'
    go_simp
    with_reducible rfl
  rotate_left
  · simp only [Act.put, List.setIfInBounds_toArray, List.set_cons_zero, List.set_cons_succ, i64_w, i32_w]
    rfl
  refine take_ (i := 2) (N := some 14) (v := ?_) (a' := ?_) #[true, true, true, false, false, true, true, false, false, false] rfl rfl (by kernel_rfl) (fun _ _ _ h => h) (Or.inl ⟨by rfl, ?_⟩) hHeld ?_ ?_
  rotate_left
  · intro w' s0
    go_simp
    with_reducible rfl
  rotate_left
  · simp only [Act.put, List.setIfInBounds_toArray, List.set_cons_zero, List.set_cons_succ, i64_w, i32_w]
    rfl
  refine pure_ (i := 3) (N := some 15) (v := ?_) (a' := ?_) #[true, true, true, true, false, true, true, false, false, false] rfl rfl (by kernel_rfl) (fun _ _ _ h => h) (Or.inl ⟨by rfl, ?_⟩) ?_ ?_
  rotate_left
  · intro w'
    go_simp
    with_reducible rfl
  rotate_left
  · simp only [Act.put, List.setIfInBounds_toArray, List.set_cons_zero, List.set_cons_succ, i64_w, i32_w]
    rfl
  refine pure_ (i := 4) (N := some 16) (v := ?_) (a' := ?_) #[true, true, true, true, true, true, true, false, false, false] rfl rfl (by kernel_rfl) (fun _ _ _ h => h) (Or.inl ⟨by rfl, ?_⟩) ?_ ?_
  rotate_left
  · intro w'
    go_simp
    with_reducible rfl
  rotate_left
  · simp only [Act.put, List.setIfInBounds_toArray, List.set_cons_zero, List.set_cons_succ, i64_w, i32_w]
    rfl
  refine one_ (i := 7) (N := some 4) #[true, true, true, true, true, true, true, true, false, false] rfl rfl (by kernel_rfl) (by decide) (fun K hK => ?_)
  refine box_step ?hg (N := 4) ?hd (cs := #[.int .i64 0, .slice none 0 0, .int .u64 0]) (t := 54) ?hr ?_; (case hd => rfl); (case hg => rfl); (case hr => first | (go_simp; done) | (go_simp; rfl))
  intro gb4 hg4 w4 hbox hb4
  have HB4 := Aside0.mk (below_step (below_drew1 HB1.out) hb4)
  have HK2 := Aside0.mk (blk_below (g := w.heap.size) (o := .cells #[.int .i64 0, .slice none 0 0, .int .u64 0] 54 (0, 0)) (blk_drew HK1.out) hb4)
  have HK4 := Aside0.mk hbox
  have HG4 := Aside0.mk (show w.heap.size < gb4 by rw [hg4]; exact blk_lt (blk_drew HK1.out))
  clear hb4 hbox hg4
  refine hK.out _ _ (((HB4.out.cell (World.block_lt_of_cell? w _ HX.out)).trans HX.out)) (fun hHeld => ?_)
  clear hK K
  refine norm_ (a' := ?_) ?_ ?_
  rotate_left
  · show Act.put _ (some 4) _ = _
    simp only [Act.put, List.setIfInBounds_toArray, List.set_cons_zero, List.set_cons_succ, i64_w, i32_w]
    rfl
  refine one_ (i := 8) (N := none) #[true, true, true, true, true, true, true, true, true, false] rfl rfl (by kernel_rfl) (by decide) (fun K hK => ?_)
  have hs0 : w4.cell? ⟨gb4, 0, none⟩ = some (.int .i64 0) := (blk_cell HK4.out 0).trans rfl
  have hf0 := blk_frozen HK4.out 0
  have hs1 : w4.cell? ⟨gb4, 1, none⟩ = some (.slice none 0 0) := (blk_cell HK4.out 1).trans rfl
  have hf1 := blk_frozen HK4.out 1
  have hs2 : w4.cell? ⟨gb4, 2, none⟩ = some (.int .u64 0) := (blk_cell HK4.out 2).trans rfl
  have hf2 := blk_frozen HK4.out 2
  refine skip_ (w1 := ?_) (by rfl) rfl ?_ ?_
  rotate_left
  · (go_simp; rfl)
  have HB5 := Aside0.mk (show Below w.heap.size w (((w4.setCell ⟨gb4, 0, none⟩ (.int .i64 (wrap64 (rd l0 0)))).setCell ⟨gb4, 1, none⟩ (.slice none 0 0)).setCell ⟨gb4, 2, none⟩ (.int .u64 0)) from below_set (below_set (below_set HB4.out (Nat.le_of_lt HG4.out)) (Nat.le_of_lt HG4.out)) (Nat.le_of_lt HG4.out))
  refine hK.out _ _ (((HB5.out.cell (World.block_lt_of_cell? w _ HX.out)).trans HX.out)) (fun hHeld => ?_)
  clear hK K
  refine pure_ (i := 9) (N := some 5) (v := ?_) (a' := ?_) #[true, true, true, true, true, true, true, true, true, true] rfl rfl (by kernel_rfl) (fun _ _ _ h => h) (Or.inl ⟨by rfl, ?_⟩) ?_ ?_
  rotate_left
  · intro w'
    go_simp
    with_reducible rfl
  rotate_left
  · simp only [Act.put, List.setIfInBounds_toArray, List.set_cons_zero, List.set_cons_succ, i64_w, i32_w]
    rfl
  refine done_ (by kernel_rfl) ?_
  clear hs0 hf0 hs1 hf1 hs2 hf2 hHeld
  have HK5 := Aside0.mk (show (((w4.setCell ⟨gb4, 0, none⟩ (.int .i64 (wrap64 (rd l0 0)))).setCell ⟨gb4, 1, none⟩ (.slice none 0 0)).setCell ⟨gb4, 2, none⟩ (.int .u64 0)).heap[gb4]? = some (.cells #[.int .i64 (wrap64 (rd l0 0)), .slice none 0 0, .int .u64 0] 54 (0, 0)) from blk_set (blk_set (blk_set HK4.out 0 _) 1 _) 2 _)
  have HK6 := Aside0.mk (show (((w4.setCell ⟨gb4, 0, none⟩ (.int .i64 (wrap64 (rd l0 0)))).setCell ⟨gb4, 1, none⟩ (.slice none 0 0)).setCell ⟨gb4, 2, none⟩ (.int .u64 0)).heap[w.heap.size]? = some (.cells #[.int .i64 0, .slice none 0 0, .int .u64 0] 54 (0, 0)) from blk_far (blk_far (blk_far HK2.out (Nat.ne_of_lt HG4.out) _) (Nat.ne_of_lt HG4.out) _) (Nat.ne_of_lt HG4.out) _)
  generalize (((w4.setCell ⟨gb4, 0, none⟩ (.int .i64 (wrap64 (rd l0 0)))).setCell ⟨gb4, 1, none⟩ (.slice none 0 0)).setCell ⟨gb4, 2, none⟩ (.int .u64 0)) = W5 at HB5 HK5 HK6 ⊢
  clear HB4 HK4 HK2 HB1 HK1 hx1
  have h := HH.out
  clear HH
  generalize wrap64 (rd l0 0) = z at h HK5
  have k0 : W5.cell? ⟨gb4, 0, none⟩ = some (.int .i64 z) := (blk_cell HK5.out 0).trans rfl
  have k1 : W5.cell? ⟨gb4, 1, none⟩ = some (.slice none 0 0) := (blk_cell HK5.out 1).trans rfl
  have k2 : W5.cell? ⟨gb4, 2, none⟩ = some (.int .u64 0) := (blk_cell HK5.out 2).trans rfl
  have f0 := blk_frozen HK5.out 0
  have f1 := blk_frozen HK5.out 1
  have f2 := blk_frozen HK5.out 2
  have m0 : W5.cell? ⟨w.heap.size, 0, none⟩ = some (.int .i64 0) := (blk_cell HK6.out 0).trans rfl
  have m1 : W5.cell? ⟨w.heap.size, 1, none⟩ = some (.slice none 0 0) := (blk_cell HK6.out 1).trans rfl
  have m2 : W5.cell? ⟨w.heap.size, 2, none⟩ = some (.int .u64 0) := (blk_cell HK6.out 2).trans rfl
  have n0 := blk_frozen HK6.out 0
  have n1 := blk_frozen HK6.out 1
  have n2 := blk_frozen HK6.out 2
  by_cases z1 : z = 1
  · rw [if_pos z1] at h
    subst z1
    by_cases g1 : 4097 < l0.length
    · rw [if_pos g1] at h
      obtain ⟨rfl, rfl, rfl, rfl⟩ : 0 = r1 ∧ [] = r2 ∧ 0 = r3 ∧ 10 = r4 := by simpa using h
      have g1b : decide (4096 < ((l0.length - 1 : Nat) : Int)) = true := decide_eq_true (by omega)
      clear h g1
      go_wp2_with (fail)
      refine bodyPost_ret (results_ct rfl _ _ w.heap.size 54 _ (0, 0) _ rfl (blk_set (blk_set (blk_set HK6.out 0 _) 1 _) 2 _) Try.underlying54 rfl (by kernel_rfl)) rfl ?_
      exact ⟨_, rfl, Kd.R_nil _ _ _ _ _, below_set (below_set (below_set HB5.out (Nat.le_refl _)) (Nat.le_refl _)) (Nat.le_refl _)⟩
    · rw [if_neg g1] at h
      have g1b : decide (4096 < ((l0.length - 1 : Nat) : Int)) = false := decide_eq_false (by omega)
      obtain ⟨b, hb, h⟩ := Option.bind_eq_some_iff.mp h
      obtain ⟨rfl, rfl, rfl, rfl⟩ : 1 = r1 ∧ b = r2 ∧ 0 = r3 ∧ 0 = r4 := by simpa using h
      have HQ := Aside0.mk hb
      clear h hb g1
      have hcall := slices_Clone_byte_byte.calls A5 (c0 - 1) (l0.drop 1) b _ (Kd.C_below HR5.out HB5.out) HC5.out HQ.out
      rw [List.length_drop] at hcall
      have HCALL := Aside0.mk hcall
      clear hcall
      have HLT := Aside0.mk (blk_lt HK5.out)
      go_wp2_with (fail)
      refine HCALL.out.mono ?_
      rintro e w6 ⟨v6, rfl, h6, hb6⟩
      have HB6 := Aside0.mk (below_step HB5.out hb6)
      have HK4 := Aside0.mk (blk_below HK5.out hb6)
      have HK2 := Aside0.mk (blk_below HK6.out hb6)
      clear hb6
      clear k0 k1 k2 f0 f1 f2 m0 m1 m2 n0 n1 n2
      obtain ⟨A6, c6, rfl⟩ := Kd.R_slice h6
      have H6 := Aside0.mk h6
      clear h6
      have k0 : w6.cell? ⟨gb4, 0, none⟩ = some (.int .i64 1) := (blk_cell HK4.out 0).trans rfl
      have f0 := blk_frozen HK4.out 0
      have k1 : w6.cell? ⟨gb4, 1, none⟩ = some (.slice none 0 0) := (blk_cell HK4.out 1).trans rfl
      have f1 := blk_frozen HK4.out 1
      have k2 : w6.cell? ⟨gb4, 2, none⟩ = some (.int .u64 0) := (blk_cell HK4.out 2).trans rfl
      have f2 := blk_frozen HK4.out 2
      have m0 : w6.cell? ⟨w.heap.size, 0, none⟩ = some (.int .i64 0) := (blk_cell HK2.out 0).trans rfl
      have n0 := blk_frozen HK2.out 0
      have m1 : w6.cell? ⟨w.heap.size, 1, none⟩ = some (.slice none 0 0) := (blk_cell HK2.out 1).trans rfl
      have n1 := blk_frozen HK2.out 1
      have m2 : w6.cell? ⟨w.heap.size, 2, none⟩ = some (.int .u64 0) := (blk_cell HK2.out 2).trans rfl
      have n2 := blk_frozen HK2.out 2
      have hne : gb4 ≠ w.heap.size := Nat.ne_of_gt HG4.out
      have hne' : w.heap.size ≠ gb4 := Nat.ne_of_lt HG4.out
      go_wp2_with (fail)
      refine bodyPost_ret (results_ct rfl _ _ w.heap.size 54 _ (0, 0) _ rfl (blk_set (blk_set (blk_set (blk_far HK2.out (Nat.ne_of_lt HG4.out) _) 0 _) 1 _) 2 _) Try.underlying54 rfl (by kernel_rfl)) rfl ?_
      exact ⟨_, rfl, Kd.R_mono (Kd.R_far (p := ⟨w.heap.size, 2, none⟩) (Kd.R_far (p := ⟨w.heap.size, 1, none⟩) (Kd.R_far (p := ⟨w.heap.size, 0, none⟩) (Kd.R_far (p := ⟨gb4, 1, none⟩) (Kd.R_types (Kd.R_types (Kd.R_lower H6.out (Nat.le_trans (Nat.le_of_lt HG4.out) (Nat.le_of_lt HLT.out))) HK4.out (by decide)) HK2.out (by decide)) (fun _ hk => hk.1.2) _) (fun _ hk => hk.2) _) (fun _ hk => hk.2) _) (fun _ hk => hk.2) _) (fun _ _ => trivial), below_set (below_set (below_set (below_set HB6.out (Nat.le_of_lt HG4.out)) (Nat.le_refl _)) (Nat.le_refl _)) (Nat.le_refl _)⟩
  · rw [if_neg z1] at h
    have z1b : (z == 1) = false := beq_eq_false_iff_ne.mpr z1
    by_cases z4 : z = 4
    · rw [if_pos z4] at h
      subst z4
      obtain ⟨⟨v, ok⟩, hg, h⟩ := Option.bind_eq_some_iff.mp h
      have hcall := pack_Get.calls k A5 (c0 - 1) (l0.drop 1) 0 8 v ok _ (Kd.C_below HR5.out HB5.out) HC5.out hg
      rw [List.length_drop] at hcall
      have HCALL := Aside0.mk hcall
      clear hcall hg
      cases ok with
      | false =>
        obtain ⟨rfl, rfl, rfl, rfl⟩ : 0 = r1 ∧ [] = r2 ∧ 0 = r3 ∧ 2 = r4 := by simpa using h
        clear h
        go_wp2_with (fail)
        refine HCALL.out.mono ?_
        rintro e w6 ⟨rfl, hb6⟩
        have HB6 := Aside0.mk (below_step HB5.out hb6)
        have HK4 := Aside0.mk (blk_below HK5.out hb6)
        have HK2 := Aside0.mk (blk_below HK6.out hb6)
        clear hb6
        clear k0 k1 k2 f0 f1 f2 m0 m1 m2 n0 n1 n2
        have k0 : w6.cell? ⟨gb4, 0, none⟩ = some (.int .i64 4) := (blk_cell HK4.out 0).trans rfl
        have f0 := blk_frozen HK4.out 0
        have k1 : w6.cell? ⟨gb4, 1, none⟩ = some (.slice none 0 0) := (blk_cell HK4.out 1).trans rfl
        have f1 := blk_frozen HK4.out 1
        have k2 : w6.cell? ⟨gb4, 2, none⟩ = some (.int .u64 0) := (blk_cell HK4.out 2).trans rfl
        have f2 := blk_frozen HK4.out 2
        have m0 : w6.cell? ⟨w.heap.size, 0, none⟩ = some (.int .i64 0) := (blk_cell HK2.out 0).trans rfl
        have n0 := blk_frozen HK2.out 0
        have m1 : w6.cell? ⟨w.heap.size, 1, none⟩ = some (.slice none 0 0) := (blk_cell HK2.out 1).trans rfl
        have n1 := blk_frozen HK2.out 1
        have m2 : w6.cell? ⟨w.heap.size, 2, none⟩ = some (.int .u64 0) := (blk_cell HK2.out 2).trans rfl
        have n2 := blk_frozen HK2.out 2
        go_wp2_with (fail)
        refine bodyPost_ret (results_ct rfl _ _ w.heap.size 54 _ (0, 0) _ rfl (blk_set (blk_set (blk_set HK2.out 0 _) 1 _) 2 _) Try.underlying54 rfl (by kernel_rfl)) rfl ?_
        exact ⟨_, rfl, Kd.R_nil _ _ _ _ _, below_set (below_set (below_set HB6.out (Nat.le_refl _)) (Nat.le_refl _)) (Nat.le_refl _)⟩
      | true =>
        rw [if_pos (show ((v, true) : Int × Bool).2 = true from rfl)] at h
        by_cases q9 : l0.length < 9
        case pos => rw [if_pos q9] at h; cases h
        rw [if_neg q9] at h
        obtain ⟨i0_, hi0_, _, hsz_, _⟩ := info_parts info5
        obtain ⟨A8, hcut8, hA8, hC8⟩ := print_drop_of (P := Try.prog) (Value.int .u8) 0 22 5 .i64 Try.underlying22 hi0_ hsz_ A5 (c0 - 1) (l0.drop 1) 8 (by omega) (by rw [List.length_drop]; omega) HC5.out
        simp only [show Int.toNat 8 = 8 from rfl, List.length_drop] at hcut8
        clear hA8 hC8 hi0_ hsz_
        go_wp2_with (fail)
        refine HCALL.out.mono ?_
        rintro e w6 ⟨rfl, hb6⟩
        have HB6 := Aside0.mk (below_step HB5.out hb6)
        have HK4 := Aside0.mk (blk_below HK5.out hb6)
        have HK2 := Aside0.mk (blk_below HK6.out hb6)
        clear hb6
        clear k0 k1 k2 f0 f1 f2 m0 m1 m2 n0 n1 n2
        have k0 : w6.cell? ⟨gb4, 0, none⟩ = some (.int .i64 4) := (blk_cell HK4.out 0).trans rfl
        have f0 := blk_frozen HK4.out 0
        have k1 : w6.cell? ⟨gb4, 1, none⟩ = some (.slice none 0 0) := (blk_cell HK4.out 1).trans rfl
        have f1 := blk_frozen HK4.out 1
        have k2 : w6.cell? ⟨gb4, 2, none⟩ = some (.int .u64 0) := (blk_cell HK4.out 2).trans rfl
        have f2 := blk_frozen HK4.out 2
        have m0 : w6.cell? ⟨w.heap.size, 0, none⟩ = some (.int .i64 0) := (blk_cell HK2.out 0).trans rfl
        have n0 := blk_frozen HK2.out 0
        have m1 : w6.cell? ⟨w.heap.size, 1, none⟩ = some (.slice none 0 0) := (blk_cell HK2.out 1).trans rfl
        have n1 := blk_frozen HK2.out 1
        have m2 : w6.cell? ⟨w.heap.size, 2, none⟩ = some (.int .u64 0) := (blk_cell HK2.out 2).trans rfl
        have n2 := blk_frozen HK2.out 2
        have hne : gb4 ≠ w.heap.size := Nat.ne_of_gt HG4.out
        have hne' : w.heap.size ≠ gb4 := Nat.ne_of_lt HG4.out
        go_wp2_with (fail)
        refine start_ (n := 6) (S := fun w' => True) (ds := []) #[false, false, false, false, false, false] (by kernel_rfl) rfl rfl trivial (fun hHeld => ?_)
        refine pure_ (i := 0) (N := some 41) (v := ?_) (a' := ?_) #[true, false, false, false, false, false] rfl rfl (by kernel_rfl) (fun _ _ _ h => h) (Or.inl ⟨by rfl, ?_⟩) ?_ ?_
        rotate_left
        · intro w'
          go_simp
          with_reducible rfl
        rotate_left
        · simp only [Act.put, List.setIfInBounds_toArray, List.set_cons_zero, List.set_cons_succ, i64_w, i32_w]
          rfl
        refine pure_ (i := 1) (N := some 42) (v := ?_) (a' := ?_) #[true, true, false, false, false, false] rfl rfl (by kernel_rfl) (fun _ _ _ h => h) (Or.inl ⟨by rfl, ?_⟩) ?_ ?_
        rotate_left
        · intro w'
          go_simp
          with_reducible rfl
        rotate_left
        · simp only [Act.put, List.setIfInBounds_toArray, List.set_cons_zero, List.set_cons_succ, i64_w, i32_w]
          rfl
        refine pure_ (i := 2) (N := some 43) (v := ?_) (a' := ?_) #[true, true, true, false, false, false] rfl rfl (by kernel_rfl) (fun _ _ _ h => h) (Or.inl ⟨by rfl, ?_⟩) ?_ ?_
        rotate_left
        · intro w'
          go_simp
          with_reducible rfl
        rotate_left
        · simp only [Act.put, List.setIfInBounds_toArray, List.set_cons_zero, List.set_cons_succ, i64_w, i32_w]
          rfl
        refine pure_ (i := 3) (N := some 44) (v := ?_) (a' := ?_) #[true, true, true, true, false, false] rfl rfl (by kernel_rfl) (fun _ _ _ h => h) (Or.inl ⟨by rfl, ?_⟩) ?_ ?_
        rotate_left
        · intro w'
          go_simp
          with_reducible rfl
        rotate_left
        · simp only [Act.put, List.setIfInBounds_toArray, List.set_cons_zero, List.set_cons_succ, i64_w, i32_w]
          rfl
        refine one_ (i := 4) (N := none) #[true, true, true, true, true, false] rfl rfl (by kernel_rfl) (by decide) (fun K hK => ?_)
        refine skip_ (w1 := ?_) (by rfl) rfl ?_ ?_
        rotate_left
        · (go_simp; rfl)
        refine hK.out _ _ trivial (fun hHeld => ?_)
        clear hK K
        refine pure_ (i := 5) (N := some 5) (v := ?_) (a' := ?_) #[true, true, true, true, true, true] rfl rfl (by kernel_rfl) (fun _ _ _ h => h) (Or.inl ⟨by rfl, ?_⟩) ?_ ?_
        rotate_left
        · intro w'
          go_simp
          with_reducible rfl
        rotate_left
        · simp only [Act.put, List.setIfInBounds_toArray, List.set_cons_zero, List.set_cons_succ, i64_w, i32_w]
          rfl
        refine done_ (by kernel_rfl) ?_
        clear k0 k1 k2 f0 f1 f2 m0 m1 m2 n0 n1 n2
        have HB7 := Aside0.mk (show Below w.heap.size w (w6.setCell ⟨gb4, 2, none⟩ (.int .u64 v)).drew from below_drew1 (below_set HB6.out (Nat.le_of_lt HG4.out)))
        have HK7 := Aside0.mk (show (w6.setCell ⟨gb4, 2, none⟩ (.int .u64 v)).drew.heap[gb4]? = some (.cells #[.int .i64 4, .slice none 0 0, .int .u64 v] 54 (0, 0)) from blk_drew (blk_set HK4.out 2 _))
        have HK8 := Aside0.mk (show (w6.setCell ⟨gb4, 2, none⟩ (.int .u64 v)).drew.heap[w.heap.size]? = some (.cells #[.int .i64 0, .slice none 0 0, .int .u64 0] 54 (0, 0)) from blk_drew (blk_far HK2.out (Nat.ne_of_lt HG4.out) _))
        generalize (w6.setCell ⟨gb4, 2, none⟩ (.int .u64 v)).drew = w7 at HB7 HK7 HK8 ⊢
        have k0 : w7.cell? ⟨gb4, 0, none⟩ = some (.int .i64 4) := (blk_cell HK7.out 0).trans rfl
        have f0 := blk_frozen HK7.out 0
        have k1 : w7.cell? ⟨gb4, 1, none⟩ = some (.slice none 0 0) := (blk_cell HK7.out 1).trans rfl
        have f1 := blk_frozen HK7.out 1
        have k2 : w7.cell? ⟨gb4, 2, none⟩ = some (.int .u64 v) := (blk_cell HK7.out 2).trans rfl
        have f2 := blk_frozen HK7.out 2
        have m0 : w7.cell? ⟨w.heap.size, 0, none⟩ = some (.int .i64 0) := (blk_cell HK8.out 0).trans rfl
        have n0 := blk_frozen HK8.out 0
        have m1 : w7.cell? ⟨w.heap.size, 1, none⟩ = some (.slice none 0 0) := (blk_cell HK8.out 1).trans rfl
        have n1 := blk_frozen HK8.out 1
        have m2 : w7.cell? ⟨w.heap.size, 2, none⟩ = some (.int .u64 0) := (blk_cell HK8.out 2).trans rfl
        have n2 := blk_frozen HK8.out 2
        by_cases q10 : 9 < l0.length
        · rw [if_pos q10] at h
          obtain ⟨rfl, rfl, rfl, rfl⟩ : 0 = r1 ∧ [] = r2 ∧ 0 = r3 ∧ 3 = r4 := by simpa using h
          have q11 : decide (0 < l0.length - 1 - 8) = true := decide_eq_true (by omega)
          have q12 : decide (0 < ((l0.length - 9 : Nat) : Int)) = true := decide_eq_true (by omega)
          clear h
          go_wp2_with (fail)
          refine bodyPost_ret (results_ct rfl _ _ w.heap.size 54 _ (0, 0) _ rfl (blk_set (blk_set (blk_set HK8.out 0 _) 1 _) 2 _) Try.underlying54 rfl (by kernel_rfl)) rfl ?_
          exact ⟨_, rfl, Kd.R_nil _ _ _ _ _, below_set (below_set (below_set HB7.out (Nat.le_refl _)) (Nat.le_refl _)) (Nat.le_refl _)⟩
        · rw [if_neg q10] at h
          obtain ⟨rfl, rfl, rfl, rfl⟩ : 4 = r1 ∧ [] = r2 ∧ v = r3 ∧ 0 = r4 := by simpa using h
          have q11 : decide (0 < l0.length - 1 - 8) = false := decide_eq_false (by omega)
          have q12 : decide (0 < ((l0.length - 9 : Nat) : Int)) = false := decide_eq_false (by omega)
          clear h
          go_wp2_with (fail)
          refine bodyPost_ret (results_ct rfl _ _ w.heap.size 54 _ (0, 0) _ rfl (blk_set (blk_set (blk_set HK8.out 0 _) 1 _) 2 _) Try.underlying54 rfl (by kernel_rfl)) rfl ?_
          exact ⟨_, rfl, Kd.R_nil _ _ _ _ _, below_set (below_set (below_set HB7.out (Nat.le_refl _)) (Nat.le_refl _)) (Nat.le_refl _)⟩
    · rw [if_neg z4] at h
      have z4b : (z == 4) = false := beq_eq_false_iff_ne.mpr z4
      by_cases zq : z = 2 ∨ z = 3 ∨ z = 5
      · rw [if_pos zq] at h
        have hne : gb4 ≠ w.heap.size := Nat.ne_of_gt HG4.out
        have hne' : w.heap.size ≠ gb4 := Nat.ne_of_lt HG4.out
        by_cases q1 : 1 < l0.length
        · rw [if_pos q1] at h
          obtain ⟨rfl, rfl, rfl, rfl⟩ : 0 = r1 ∧ [] = r2 ∧ 0 = r3 ∧ 3 = r4 := by simpa using h
          have q1b : decide (0 < l0.length - 1) = true := decide_eq_true (by omega)
          clear h
          rcases zq with rfl | rfl | rfl
          · go_wp2_with (fail)
            refine bodyPost_ret (results_ct rfl _ _ w.heap.size 54 _ (0, 0) _ rfl (blk_set (blk_set (blk_set HK6.out 0 _) 1 _) 2 _) Try.underlying54 rfl (by kernel_rfl)) rfl ?_
            exact ⟨_, rfl, Kd.R_nil _ _ _ _ _, below_set (below_set (below_set HB5.out (Nat.le_refl _)) (Nat.le_refl _)) (Nat.le_refl _)⟩
          · go_wp2_with (fail)
            refine bodyPost_ret (results_ct rfl _ _ w.heap.size 54 _ (0, 0) _ rfl (blk_set (blk_set (blk_set HK6.out 0 _) 1 _) 2 _) Try.underlying54 rfl (by kernel_rfl)) rfl ?_
            exact ⟨_, rfl, Kd.R_nil _ _ _ _ _, below_set (below_set (below_set HB5.out (Nat.le_refl _)) (Nat.le_refl _)) (Nat.le_refl _)⟩
          · go_wp2_with (fail)
            refine bodyPost_ret (results_ct rfl _ _ w.heap.size 54 _ (0, 0) _ rfl (blk_set (blk_set (blk_set HK6.out 0 _) 1 _) 2 _) Try.underlying54 rfl (by kernel_rfl)) rfl ?_
            exact ⟨_, rfl, Kd.R_nil _ _ _ _ _, below_set (below_set (below_set HB5.out (Nat.le_refl _)) (Nat.le_refl _)) (Nat.le_refl _)⟩
        · rw [if_neg q1] at h
          obtain ⟨rfl, rfl, rfl, rfl⟩ : z = r1 ∧ [] = r2 ∧ 0 = r3 ∧ 0 = r4 := by simpa using h
          have q1b : decide (0 < l0.length - 1) = false := decide_eq_false (by omega)
          clear h
          rcases zq with rfl | rfl | rfl
          · go_wp2_with (fail)
            refine bodyPost_ret (results_ct rfl _ _ w.heap.size 54 _ (0, 0) _ rfl (blk_set (blk_set (blk_set HK6.out 0 _) 1 _) 2 _) Try.underlying54 rfl (by kernel_rfl)) rfl ?_
            exact ⟨_, rfl, Kd.R_nil _ _ _ _ _, below_set (below_set (below_set HB5.out (Nat.le_refl _)) (Nat.le_refl _)) (Nat.le_refl _)⟩
          · go_wp2_with (fail)
            refine bodyPost_ret (results_ct rfl _ _ w.heap.size 54 _ (0, 0) _ rfl (blk_set (blk_set (blk_set HK6.out 0 _) 1 _) 2 _) Try.underlying54 rfl (by kernel_rfl)) rfl ?_
            exact ⟨_, rfl, Kd.R_nil _ _ _ _ _, below_set (below_set (below_set HB5.out (Nat.le_refl _)) (Nat.le_refl _)) (Nat.le_refl _)⟩
          · go_wp2_with (fail)
            refine bodyPost_ret (results_ct rfl _ _ w.heap.size 54 _ (0, 0) _ rfl (blk_set (blk_set (blk_set HK6.out 0 _) 1 _) 2 _) Try.underlying54 rfl (by kernel_rfl)) rfl ?_
            exact ⟨_, rfl, Kd.R_nil _ _ _ _ _, below_set (below_set (below_set HB5.out (Nat.le_refl _)) (Nat.le_refl _)) (Nat.le_refl _)⟩
      · rw [if_neg zq] at h
        obtain ⟨rfl, rfl, rfl, rfl⟩ : 0 = r1 ∧ [] = r2 ∧ 0 = r3 ∧ 4 = r4 := by simpa using h
        have z2b : (z == 2) = false := beq_eq_false_iff_ne.mpr (fun e => zq (.inl e))
        have z3b : (z == 3) = false := beq_eq_false_iff_ne.mpr (fun e => zq (.inr (.inl e)))
        have z5b : (z == 5) = false := beq_eq_false_iff_ne.mpr (fun e => zq (.inr (.inr e)))
        clear h zq z1 z4
        go_wp2_with (fail)
        refine bodyPost_ret (results_ct rfl _ _ w.heap.size 54 _ (0, 0) _ rfl (blk_set (blk_set (blk_set HK6.out 0 _) 1 _) 2 _) Try.underlying54 rfl (by kernel_rfl)) rfl ?_
        exact ⟨_, rfl, Kd.R_nil _ _ _ _ _, below_set (below_set (below_set HB5.out (Nat.le_refl _)) (Nat.le_refl _)) (Nat.le_refl _)⟩


/-! ### merkhetref23_Same: function 35 -/
def merkhetref23_Same.f (a0_0 : Int) (l0_1 : List Int) (a0_2 : Int) (a1_0 : Int) (l1_1 : List Int) (a1_2 : Int) : Option (Bool) := if a0_0 = a1_0 then (if a0_2 = a1_2 then (some ((strOfNums l0_1).toList == (strOfNums l1_1).toList)) else (some false)) else (some false)
set_option maxHeartbeats 8000000 in
set_option maxRecDepth 100000 in
theorem merkhetref23_Same.calls (a0_0 : Int) (A0_1 : Option Addr) (c0_1 : Nat) (l0_1 : List Int) (a0_2 : Int) (a1_0 : Int) (A1_1 : Option Addr) (c1_1 : Nat) (l1_1 : List Int) (a1_2 : Int) (r : Bool) (w : World) (hr0_1 : Kd.C (Kd.int .u8) w A0_1 l0_1.length l0_1) (hc0_1 : l0_1.length ≤ c0_1) (hr1_1 : Kd.C (Kd.int .u8) w A1_1 l1_1.length l1_1) (hc1_1 : l1_1.length ≤ c1_1) (h : merkhetref23_Same.f a0_0 l0_1 a0_2 a1_0 l1_1 a1_2 = some r) :
    Calls Try.prog 35 #[.agg #[.int .i64 a0_0, .slice A0_1 l0_1.length c0_1, .int .u64 a0_2], .agg #[.int .i64 a1_0, .slice A1_1 l1_1.length c1_1, .int .u64 a1_2]] w fun e w' => e = .returned (.bool r) ∧ Below w.heap.size w w' := by
  have hu54 := Try.underlying54
  have HR0_1 := Aside0.mk hr0_1
  have HC0_1 := Aside0.mk hc0_1
  clear hr0_1 hc0_1
  have HR1_1 := Aside0.mk hr1_1
  have HC1_1 := Aside0.mk hc1_1
  clear hr1_1 hc1_1
  have HB := Aside0.mk (Below.refl w.heap.size w)
  have H : (if a0_0 = a1_0 then (if a0_2 = a1_2 then (some ((strOfNums l0_1).toList == (strOfNums l1_1).toList)) else (some false)) else (some false)) = some r := h
  clear h
  by_cases c3 : a0_0 = a1_0
  · rw [if_pos c3] at H
    have c3b0 : (a0_0 == a1_0) = true := beq_iff_eq.mpr c3
    have c3b1 : (a0_0 != a1_0) = false := bne_eq_false_iff_eq.mpr c3
    clear c3
    by_cases c4 : a0_2 = a1_2
    · rw [if_pos c4] at H
      have c4b0 : (a0_2 == a1_2) = true := beq_iff_eq.mpr c4
      have c4b1 : (a0_2 != a1_2) = false := bne_eq_false_iff_eq.mpr c4
      clear c4
      obtain rfl := Option.some.inj H
      go_enter Try.func35, Try.ntmps35
      go_wp2_with (first | ((with_reducible refine gate_dst (N := 2) rfl ?_); refine box_event ?hg (N := 2) ?hd (cs := #[.int .i64 a0_0, .slice A0_1 l0_1.length c0_1, .int .u64 a0_2]) (t := 54) ?hr ?_; (case hd => rfl); (case hg => rfl); (case hr => first | (go_simp; done) | (go_simp; rfl)); intro gb129 hg w5 hbox hb; have n0_ := Aside0.mk (below_step (by repeat (first | (with_reducible first | exact HB.out | apply below_alloc | apply pw_below_drewN | apply below_drew1) | exact HB.out)) hb); have n1_ := Aside0.mk (hbox); have n2_ := Aside0.mk ((by rw [hg]; exact (below_size (by repeat (first | (with_reducible first | exact HB.out | apply below_alloc | apply pw_below_drewN | apply below_drew1) | exact HB.out))) : w.heap.size ≤ gb129)); have n3_ := Aside0.mk ((by rw [hg]; exact (below_size (by repeat (first | (with_reducible first | exact HB.out | apply below_alloc | apply pw_below_drewN | apply below_drew1) | exact HB.out))) : w.heap.size ≤ gb129)); clear HB; have HB := n0_; have BK129 := n1_; have GW129 := n2_; have GE129 := n3_; clear n0_ n1_ n2_ n3_; clear hb hbox hg) | ((with_reducible refine gate_dst (N := 3) rfl ?_); refine box_event ?hg (N := 3) ?hd (cs := #[.int .i64 a1_0, .slice A1_1 l1_1.length c1_1, .int .u64 a1_2]) (t := 54) ?hr ?_; (case hd => rfl); (case hg => rfl); (case hr => first | (go_simp; done) | (go_simp; rfl)); intro gb130 hg w6 hbox hb; have n0_ := Aside0.mk (blk_below (g := gb129) (o := .cells #[.int .i64 a0_0, .slice A0_1 l0_1.length c0_1, .int .u64 a0_2] 54 (0, 0)) (by (with_reducible repeat (first | refine blk_drewN ?_ _ | refine blk_drew ?_ | refine blk_alloc ?_ _)); exact BK129.out) hb); have n1_ := Aside0.mk (below_step (by repeat (first | (with_reducible first | exact HB.out | apply below_alloc | apply pw_below_drewN | apply below_drew1 | refine below_set ?_ GE129.out) | exact HB.out)) hb); have n2_ := Aside0.mk (hbox); have n3_ := Aside0.mk ((by rw [hg]; exact (below_size (by repeat (first | (with_reducible first | exact HB.out | apply below_alloc | apply pw_below_drewN | apply below_drew1 | refine below_set ?_ GE129.out) | exact HB.out))) : w.heap.size ≤ gb130)); have n4_ := Aside0.mk ((by rw [hg]; exact (below_size (by repeat (first | (with_reducible first | exact HB.out | apply below_alloc | apply pw_below_drewN | apply below_drew1 | refine below_set ?_ GE129.out) | exact HB.out))) : w.heap.size ≤ gb130)); have n5_ := Aside0.mk ((by rw [hg]; exact Nat.ne_of_lt (blk_lt (g := gb129) (o := .cells #[.int .i64 a0_0, .slice A0_1 l0_1.length c0_1, .int .u64 a0_2] 54 (0, 0)) (by (with_reducible repeat (first | refine blk_drewN ?_ _ | refine blk_drew ?_ | refine blk_alloc ?_ _)); exact BK129.out)) : gb129 ≠ gb130)); have n6_ := Aside0.mk ((by rw [hg]; exact Nat.ne_of_gt (blk_lt (g := gb129) (o := .cells #[.int .i64 a0_0, .slice A0_1 l0_1.length c0_1, .int .u64 a0_2] 54 (0, 0)) (by (with_reducible repeat (first | refine blk_drewN ?_ _ | refine blk_drew ?_ | refine blk_alloc ?_ _)); exact BK129.out)) : gb130 ≠ gb129)); clear BK129; clear HB; have BK129 := n0_; have HB := n1_; have BK130 := n2_; have GW130 := n3_; have GE130 := n4_; have NB129_130 := n5_; have NB130_129 := n6_; clear n0_ n1_ n2_ n3_ n4_ n5_ n6_; clear hb hbox hg; have hnb7 := NB129_130.out; have hnc7 := NB130_129.out; have hcz8_0 : w6.cell? ⟨gb129, 0, none⟩ = some (.int .i64 a0_0) := (blk_cell BK129.out 0).trans rfl; have hcz8_1 : w6.cell? ⟨gb129, 1, none⟩ = some (.slice A0_1 l0_1.length c0_1) := (blk_cell BK129.out 1).trans rfl; have hcz8_2 : w6.cell? ⟨gb129, 2, none⟩ = some (.int .u64 a0_2) := (blk_cell BK129.out 2).trans rfl; have hfz8_0 := blk_frozen BK129.out 0; have hfz8_1 := blk_frozen BK129.out 1; have hfz8_2 := blk_frozen BK129.out 2; have hcz9_0 : w6.cell? ⟨gb130, 0, none⟩ = some (.int .i64 a1_0) := (blk_cell BK130.out 0).trans rfl; have hcz9_1 : w6.cell? ⟨gb130, 1, none⟩ = some (.slice A1_1 l1_1.length c1_1) := (blk_cell BK130.out 1).trans rfl; have hcz9_2 : w6.cell? ⟨gb130, 2, none⟩ = some (.int .u64 a1_2) := (blk_cell BK130.out 2).trans rfl; have hfz9_0 := blk_frozen BK130.out 0; have hfz9_1 := blk_frozen BK130.out 1; have hfz9_2 := blk_frozen BK130.out 2; have hcv10 := Kd.C_string (P := Try.prog) (A := A0_1) (c := c0_1) Try.underlying22 Try.underlying5 Try.underlying9 (Kd.C_below HR0_1.out HB.out); have hcw10 := fun n_ : Nat => Kd.C_string (P := Try.prog) (A := A0_1) (c := c0_1) Try.underlying22 Try.underlying5 Try.underlying9 (Kd.C_drewN (Kd.C_below HR0_1.out HB.out) n_); have hcv11 := Kd.C_string (P := Try.prog) (A := A1_1) (c := c1_1) Try.underlying22 Try.underlying5 Try.underlying9 (Kd.C_below HR1_1.out HB.out); have hcw11 := fun n_ : Nat => Kd.C_string (P := Try.prog) (A := A1_1) (c := c1_1) Try.underlying22 Try.underlying5 Try.underlying9 (Kd.C_drewN (Kd.C_below HR1_1.out HB.out) n_)))
      go_ret
      exact ⟨by first | rfl | (simp [errW_none, errW_some] <;> rfl) | (simp [*, errW_none, errW_some] <;> rfl), by repeat (first | (with_reducible first | exact HB.out | apply below_alloc | apply pw_below_drewN | apply below_drew1 | refine below_set ?_ GE129.out | refine below_set ?_ GE130.out) | exact HB.out)⟩
    · rw [if_neg c4] at H
      have c4b0 : (a0_2 == a1_2) = false := beq_eq_false_iff_ne.mpr c4
      have c4b1 : (a0_2 != a1_2) = true := bne_iff_ne.mpr c4
      obtain rfl := Option.some.inj H
      go_enter Try.func35, Try.ntmps35
      go_wp2_with (first | ((with_reducible refine gate_dst (N := 2) rfl ?_); refine box_event ?hg (N := 2) ?hd (cs := #[.int .i64 a0_0, .slice A0_1 l0_1.length c0_1, .int .u64 a0_2]) (t := 54) ?hr ?_; (case hd => rfl); (case hg => rfl); (case hr => first | (go_simp; done) | (go_simp; rfl)); intro gb129 hg w12 hbox hb; have n0_ := Aside0.mk (below_step (by repeat (first | (with_reducible first | exact HB.out | apply below_alloc | apply pw_below_drewN | apply below_drew1) | exact HB.out)) hb); have n1_ := Aside0.mk (hbox); have n2_ := Aside0.mk ((by rw [hg]; exact (below_size (by repeat (first | (with_reducible first | exact HB.out | apply below_alloc | apply pw_below_drewN | apply below_drew1) | exact HB.out))) : w.heap.size ≤ gb129)); have n3_ := Aside0.mk ((by rw [hg]; exact (below_size (by repeat (first | (with_reducible first | exact HB.out | apply below_alloc | apply pw_below_drewN | apply below_drew1) | exact HB.out))) : w.heap.size ≤ gb129)); clear HB; have HB := n0_; have BK129 := n1_; have GW129 := n2_; have GE129 := n3_; clear n0_ n1_ n2_ n3_; clear hb hbox hg) | ((with_reducible refine gate_dst (N := 3) rfl ?_); refine box_event ?hg (N := 3) ?hd (cs := #[.int .i64 a1_0, .slice A1_1 l1_1.length c1_1, .int .u64 a1_2]) (t := 54) ?hr ?_; (case hd => rfl); (case hg => rfl); (case hr => first | (go_simp; done) | (go_simp; rfl)); intro gb130 hg w13 hbox hb; have n0_ := Aside0.mk (blk_below (g := gb129) (o := .cells #[.int .i64 a0_0, .slice A0_1 l0_1.length c0_1, .int .u64 a0_2] 54 (0, 0)) (by (with_reducible repeat (first | refine blk_drewN ?_ _ | refine blk_drew ?_ | refine blk_alloc ?_ _)); exact BK129.out) hb); have n1_ := Aside0.mk (below_step (by repeat (first | (with_reducible first | exact HB.out | apply below_alloc | apply pw_below_drewN | apply below_drew1 | refine below_set ?_ GE129.out) | exact HB.out)) hb); have n2_ := Aside0.mk (hbox); have n3_ := Aside0.mk ((by rw [hg]; exact (below_size (by repeat (first | (with_reducible first | exact HB.out | apply below_alloc | apply pw_below_drewN | apply below_drew1 | refine below_set ?_ GE129.out) | exact HB.out))) : w.heap.size ≤ gb130)); have n4_ := Aside0.mk ((by rw [hg]; exact (below_size (by repeat (first | (with_reducible first | exact HB.out | apply below_alloc | apply pw_below_drewN | apply below_drew1 | refine below_set ?_ GE129.out) | exact HB.out))) : w.heap.size ≤ gb130)); have n5_ := Aside0.mk ((by rw [hg]; exact Nat.ne_of_lt (blk_lt (g := gb129) (o := .cells #[.int .i64 a0_0, .slice A0_1 l0_1.length c0_1, .int .u64 a0_2] 54 (0, 0)) (by (with_reducible repeat (first | refine blk_drewN ?_ _ | refine blk_drew ?_ | refine blk_alloc ?_ _)); exact BK129.out)) : gb129 ≠ gb130)); have n6_ := Aside0.mk ((by rw [hg]; exact Nat.ne_of_gt (blk_lt (g := gb129) (o := .cells #[.int .i64 a0_0, .slice A0_1 l0_1.length c0_1, .int .u64 a0_2] 54 (0, 0)) (by (with_reducible repeat (first | refine blk_drewN ?_ _ | refine blk_drew ?_ | refine blk_alloc ?_ _)); exact BK129.out)) : gb130 ≠ gb129)); clear BK129; clear HB; have BK129 := n0_; have HB := n1_; have BK130 := n2_; have GW130 := n3_; have GE130 := n4_; have NB129_130 := n5_; have NB130_129 := n6_; clear n0_ n1_ n2_ n3_ n4_ n5_ n6_; clear hb hbox hg; have hnb14 := NB129_130.out; have hnc14 := NB130_129.out; have hcz15_0 : w13.cell? ⟨gb129, 0, none⟩ = some (.int .i64 a0_0) := (blk_cell BK129.out 0).trans rfl; have hcz15_1 : w13.cell? ⟨gb129, 1, none⟩ = some (.slice A0_1 l0_1.length c0_1) := (blk_cell BK129.out 1).trans rfl; have hcz15_2 : w13.cell? ⟨gb129, 2, none⟩ = some (.int .u64 a0_2) := (blk_cell BK129.out 2).trans rfl; have hfz15_0 := blk_frozen BK129.out 0; have hfz15_1 := blk_frozen BK129.out 1; have hfz15_2 := blk_frozen BK129.out 2; have hcz16_0 : w13.cell? ⟨gb130, 0, none⟩ = some (.int .i64 a1_0) := (blk_cell BK130.out 0).trans rfl; have hcz16_1 : w13.cell? ⟨gb130, 1, none⟩ = some (.slice A1_1 l1_1.length c1_1) := (blk_cell BK130.out 1).trans rfl; have hcz16_2 : w13.cell? ⟨gb130, 2, none⟩ = some (.int .u64 a1_2) := (blk_cell BK130.out 2).trans rfl; have hfz16_0 := blk_frozen BK130.out 0; have hfz16_1 := blk_frozen BK130.out 1; have hfz16_2 := blk_frozen BK130.out 2))
      go_ret
      exact ⟨by first | rfl | (simp [errW_none, errW_some] <;> rfl) | (simp [*, errW_none, errW_some] <;> rfl), by repeat (first | (with_reducible first | exact HB.out | apply below_alloc | apply pw_below_drewN | apply below_drew1 | refine below_set ?_ GE129.out | refine below_set ?_ GE130.out) | exact HB.out)⟩
  · rw [if_neg c3] at H
    have c3b0 : (a0_0 == a1_0) = false := beq_eq_false_iff_ne.mpr c3
    have c3b1 : (a0_0 != a1_0) = true := bne_iff_ne.mpr c3
    obtain rfl := Option.some.inj H
    go_enter Try.func35, Try.ntmps35
    go_wp2_with (first | ((with_reducible refine gate_dst (N := 2) rfl ?_); refine box_event ?hg (N := 2) ?hd (cs := #[.int .i64 a0_0, .slice A0_1 l0_1.length c0_1, .int .u64 a0_2]) (t := 54) ?hr ?_; (case hd => rfl); (case hg => rfl); (case hr => first | (go_simp; done) | (go_simp; rfl)); intro gb129 hg w17 hbox hb; have n0_ := Aside0.mk (below_step (by repeat (first | (with_reducible first | exact HB.out | apply below_alloc | apply pw_below_drewN | apply below_drew1) | exact HB.out)) hb); have n1_ := Aside0.mk (hbox); have n2_ := Aside0.mk ((by rw [hg]; exact (below_size (by repeat (first | (with_reducible first | exact HB.out | apply below_alloc | apply pw_below_drewN | apply below_drew1) | exact HB.out))) : w.heap.size ≤ gb129)); have n3_ := Aside0.mk ((by rw [hg]; exact (below_size (by repeat (first | (with_reducible first | exact HB.out | apply below_alloc | apply pw_below_drewN | apply below_drew1) | exact HB.out))) : w.heap.size ≤ gb129)); clear HB; have HB := n0_; have BK129 := n1_; have GW129 := n2_; have GE129 := n3_; clear n0_ n1_ n2_ n3_; clear hb hbox hg) | ((with_reducible refine gate_dst (N := 3) rfl ?_); refine box_event ?hg (N := 3) ?hd (cs := #[.int .i64 a1_0, .slice A1_1 l1_1.length c1_1, .int .u64 a1_2]) (t := 54) ?hr ?_; (case hd => rfl); (case hg => rfl); (case hr => first | (go_simp; done) | (go_simp; rfl)); intro gb130 hg w18 hbox hb; have n0_ := Aside0.mk (blk_below (g := gb129) (o := .cells #[.int .i64 a0_0, .slice A0_1 l0_1.length c0_1, .int .u64 a0_2] 54 (0, 0)) (by (with_reducible repeat (first | refine blk_drewN ?_ _ | refine blk_drew ?_ | refine blk_alloc ?_ _)); exact BK129.out) hb); have n1_ := Aside0.mk (below_step (by repeat (first | (with_reducible first | exact HB.out | apply below_alloc | apply pw_below_drewN | apply below_drew1 | refine below_set ?_ GE129.out) | exact HB.out)) hb); have n2_ := Aside0.mk (hbox); have n3_ := Aside0.mk ((by rw [hg]; exact (below_size (by repeat (first | (with_reducible first | exact HB.out | apply below_alloc | apply pw_below_drewN | apply below_drew1 | refine below_set ?_ GE129.out) | exact HB.out))) : w.heap.size ≤ gb130)); have n4_ := Aside0.mk ((by rw [hg]; exact (below_size (by repeat (first | (with_reducible first | exact HB.out | apply below_alloc | apply pw_below_drewN | apply below_drew1 | refine below_set ?_ GE129.out) | exact HB.out))) : w.heap.size ≤ gb130)); have n5_ := Aside0.mk ((by rw [hg]; exact Nat.ne_of_lt (blk_lt (g := gb129) (o := .cells #[.int .i64 a0_0, .slice A0_1 l0_1.length c0_1, .int .u64 a0_2] 54 (0, 0)) (by (with_reducible repeat (first | refine blk_drewN ?_ _ | refine blk_drew ?_ | refine blk_alloc ?_ _)); exact BK129.out)) : gb129 ≠ gb130)); have n6_ := Aside0.mk ((by rw [hg]; exact Nat.ne_of_gt (blk_lt (g := gb129) (o := .cells #[.int .i64 a0_0, .slice A0_1 l0_1.length c0_1, .int .u64 a0_2] 54 (0, 0)) (by (with_reducible repeat (first | refine blk_drewN ?_ _ | refine blk_drew ?_ | refine blk_alloc ?_ _)); exact BK129.out)) : gb130 ≠ gb129)); clear BK129; clear HB; have BK129 := n0_; have HB := n1_; have BK130 := n2_; have GW130 := n3_; have GE130 := n4_; have NB129_130 := n5_; have NB130_129 := n6_; clear n0_ n1_ n2_ n3_ n4_ n5_ n6_; clear hb hbox hg; have hnb19 := NB129_130.out; have hnc19 := NB130_129.out; have hcz20_0 : w18.cell? ⟨gb129, 0, none⟩ = some (.int .i64 a0_0) := (blk_cell BK129.out 0).trans rfl; have hcz20_1 : w18.cell? ⟨gb129, 1, none⟩ = some (.slice A0_1 l0_1.length c0_1) := (blk_cell BK129.out 1).trans rfl; have hcz20_2 : w18.cell? ⟨gb129, 2, none⟩ = some (.int .u64 a0_2) := (blk_cell BK129.out 2).trans rfl; have hfz20_0 := blk_frozen BK129.out 0; have hfz20_1 := blk_frozen BK129.out 1; have hfz20_2 := blk_frozen BK129.out 2; have hcz21_0 : w18.cell? ⟨gb130, 0, none⟩ = some (.int .i64 a1_0) := (blk_cell BK130.out 0).trans rfl; have hcz21_1 : w18.cell? ⟨gb130, 1, none⟩ = some (.slice A1_1 l1_1.length c1_1) := (blk_cell BK130.out 1).trans rfl; have hcz21_2 : w18.cell? ⟨gb130, 2, none⟩ = some (.int .u64 a1_2) := (blk_cell BK130.out 2).trans rfl; have hfz21_0 := blk_frozen BK130.out 0; have hfz21_1 := blk_frozen BK130.out 1; have hfz21_2 := blk_frozen BK130.out 2))
    go_ret
    exact ⟨by first | rfl | (simp [errW_none, errW_some] <;> rfl) | (simp [*, errW_none, errW_some] <;> rfl), by repeat (first | (with_reducible first | exact HB.out | apply below_alloc | apply pw_below_drewN | apply below_drew1 | refine below_set ?_ GE129.out | refine below_set ?_ GE130.out) | exact HB.out)⟩

end Go.Proofs.Ytknigpdglbknhaa.Q
