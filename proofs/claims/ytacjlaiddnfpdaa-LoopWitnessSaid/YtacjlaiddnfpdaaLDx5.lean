-- WRITTEN FOR THIS CLAIM by wip/tools/mp.py, a program of this project that drives the kit's print; the functions that the print does not take are this project's own texts.
import Derived.Test.YtacjlaiddnfpdaaLDx0
import Derived.Test.YtacjlaiddnfpdaaLDx4
namespace Go.Proofs.Ytacjlaiddnfpdaa.LD
open Go.RowKit Go.Proofs.YtacjlaiddnfpdaaW.PrintWords Go.Proofs.YtacjlaiddnfpdaaW.PrintLast Go.Proofs.YtacjlaiddnfpdaaW.PrintMore
attribute [local go_sem] max2_int min2_int max_two min_two max_three min_three max_four min_four   -- for this text's walks alone
set_option linter.unusedVariables false
set_option linter.unusedSimpArgs false

/-! ### relax_Layers: function 21 -/
def relax_Layers.l0 : Nat → List (S48) → List (List Int) → List (List Int) → Int → Int → Option ((List (List Int)) × (List (List Int)))
  | 0, _, _, _, _, _ => none
  | k + 1, x1, x4, x5, x19, x20 => if x20 < x19 then (if 0 ≤ x20 then (if x20 < (x4.length : Int) then ((relax_next.f (rd_L4 x4 x20) x1).bind fun bt192 => (if x4.length < 5864062014805 then (if x5.length < 5864062014805 then (relax_Layers.l0 k x1 (x4 ++ [bt192.1]) (x5 ++ [bt192.2]) x19 (wrap64 (x20 + 1))) else (none)) else (none))) else (none)) else (none)) else (some (x4, x5))
def relax_Layers.f (k : Nat) (a0 : Int) (l1 : List (S48)) : Option ((List (List Int)) × (List (List Int))) := (relax_May.f a0 l1).bind fun t178 => (if t178 = true then ((relax_row_int64.f a0 0).bind fun t179 => ((relax_row_int.f a0 (-1)).bind fun t185 => (relax_Layers.l0 k l1 (([t179] : List (List Int))) (([t185] : List (List Int))) a0 0))) else (some (([] : List (List Int)), ([] : List (List Int)))))
theorem relax_Layers.mono_l : ∀ k, (∀ y0 y1 y2 y3 y4, LeO (relax_Layers.l0 k y0 y1 y2 y3 y4) (relax_Layers.l0 (k + 1) y0 y1 y2 y3 y4))
  | 0 => fun _ _ _ _ _ r h => by simp [relax_Layers.l0] at h
  | k + 1 => by
    have ih0 := relax_Layers.mono_l k
    · intro y0 y1 y2 y3 y4
      unfold relax_Layers.l0
      repeat' first
      | (with_reducible exact ih0 _ _ _ _ _)
      | (with_reducible exact LeO.refl _)
      | (with_reducible exact LeO.none _)
      | (with_reducible refine LeO.ite ?_ ?_)
      | (with_reducible refine LeO.bind ?_ (fun _ => ?_))
      | exact ih0 _ _ _ _ _
      | exact LeO.none _
      | refine LeO.ite ?_ ?_
      | refine LeO.bind ?_ (fun _ => ?_)
theorem relax_Layers.mono : ∀ a0 a1 k, LeO (relax_Layers.f k a0 a1) (relax_Layers.f (k + 1) a0 a1) := by
  intro a0 a1 k
  have ih0 := relax_Layers.mono_l k
  unfold relax_Layers.f
  repeat' first
      | (with_reducible exact ih0 _ _ _ _ _)
      | (with_reducible exact LeO.refl _)
      | (with_reducible exact LeO.none _)
      | (with_reducible refine LeO.ite ?_ ?_)
      | (with_reducible refine LeO.bind ?_ (fun _ => ?_))
      | exact ih0 _ _ _ _ _
      | exact LeO.none _
      | refine LeO.ite ?_ ?_
      | refine LeO.bind ?_ (fun _ => ?_)
set_option maxHeartbeats 8000000 in
set_option maxRecDepth 100000 in
theorem relax_Layers.calls (k : Nat) (a0 : Int) (A1 : Option Addr) (c1 : Nat) (l1 : List (S48)) (r1 : List (List Int)) (r2 : List (List Int)) (w : World) (hr1 : Kd.C k48 w A1 l1.length l1) (hc1 : l1.length ≤ c1) (h : relax_Layers.f k a0 l1 = some (r1, r2)) :
    Calls Try.prog 21 #[.int .i64 a0, .slice A1 l1.length c1] w fun e w' => ∃ v0_ v1_ : Value, e = .returned (.tuple #[v0_, v1_]) ∧ Kd.N (Kd.slice 2 (Kd.int .i64)) 23 w' w.heap.size (fun k_ => (w.heap.size ≤ k_) ∧ some k_ ≠ (v1_ : Value).ownBlock) v0_ r1 ∧ Kd.N (Kd.slice 3 (Kd.int .i64)) 37 w' w.heap.size (fun k_ => (w.heap.size ≤ k_) ∧ some k_ ≠ (v0_ : Value).ownBlock) v1_ r2 ∧ Below w.heap.size w w' := by
  have HR1 := Aside0.mk hr1
  have HC1 := Aside0.mk hc1
  clear hr1 hc1
  have HB := Aside0.mk (Below.refl w.heap.size w)
  have H : ((relax_May.f a0 l1).bind fun t178 => (if t178 = true then ((relax_row_int64.f a0 0).bind fun t179 => ((relax_row_int.f a0 (-1)).bind fun t185 => (relax_Layers.l0 k l1 (([t179] : List (List Int))) (([t185] : List (List Int))) a0 0))) else (some (([] : List (List Int)), ([] : List (List Int)))))) = some (r1, r2) := h
  clear h
  replace H := Option.bind_eq_some_iff.mp H
  obtain ⟨t178, A30, H⟩ := H
  replace H : (if t178 = true then ((relax_row_int64.f a0 0).bind fun t179 => ((relax_row_int.f a0 (-1)).bind fun t185 => (relax_Layers.l0 k l1 (([t179] : List (List Int))) (([t185] : List (List Int))) a0 0))) else (some (([] : List (List Int)), ([] : List (List Int))))) = some (r1, r2) := H
  have A3 := Aside0.mk A30
  clear A30
  by_cases c4 : t178 = true
  · subst c4
    have H1 : ((relax_row_int64.f a0 0).bind fun t179 => ((relax_row_int.f a0 (-1)).bind fun t185 => (relax_Layers.l0 k l1 (([t179] : List (List Int))) (([t185] : List (List Int))) a0 0))) = some (r1, r2) := by rw [if_pos rfl] at H; exact H
    clear H
    have H := H1
    clear H1
    replace H := Option.bind_eq_some_iff.mp H
    obtain ⟨t179, A50, H⟩ := H
    replace H : ((relax_row_int.f a0 (-1)).bind fun t185 => (relax_Layers.l0 k l1 (([t179] : List (List Int))) (([t185] : List (List Int))) a0 0)) = some (r1, r2) := H
    have A5 := Aside0.mk A50
    clear A50
    obtain ⟨y182, hy182⟩ : ∃ y_ : List (List Int), y_ = (([t179] : List (List Int))) := ⟨_, rfl⟩
    replace H : ((relax_row_int.f a0 (-1)).bind fun t185 => (relax_Layers.l0 k l1 y182 (([t185] : List (List Int))) a0 0)) = some (r1, r2) := by first | (rw [hy182]; with_reducible exact H) | (have H2_ := (Option.bind_some _ _).symm.trans H; rw [hy182]; with_reducible exact H2_) | (have H2_ := (Option.bind_some _ _).symm.trans H; with_reducible exact H2_) | with_reducible exact H | (rw [hy182]; exact H) | exact H
    have Ny182 := Aside0.mk hy182
    clear hy182
    replace H := Option.bind_eq_some_iff.mp H
    obtain ⟨t185, A60, H⟩ := H
    replace H : (relax_Layers.l0 k l1 y182 (([t185] : List (List Int))) a0 0) = some (r1, r2) := H
    have A6 := Aside0.mk A60
    clear A60
    obtain ⟨y188, hy188⟩ : ∃ y_ : List (List Int), y_ = (([t185] : List (List Int))) := ⟨_, rfl⟩
    replace H : (relax_Layers.l0 k l1 y182 y188 a0 0) = some (r1, r2) := by first | (rw [hy188]; with_reducible exact H) | (have H2_ := (Option.bind_some _ _).symm.trans H; rw [hy188]; with_reducible exact H2_) | (have H2_ := (Option.bind_some _ _).symm.trans H; with_reducible exact H2_) | with_reducible exact H | (rw [hy188]; exact H) | exact H
    have Ny188 := Aside0.mk hy188
    clear hy188
    have H' := Aside0.mk H
    clear H
    go_enter Try.func21, Try.ntmps21
    go_wp2_with (first | ((with_reducible refine gate_callee (f := 23) rfl ?_); refine goesL_ (some 11) rfl rfl Try.func23 (by kernel_rfl) rfl #[.int .i64 a0, .slice A1 l1.length c1] rfl (by (try simp only [List.map_toArray, List.map_cons, List.map_nil]); first | done | rfl | (simp only [List.length_drop, List.length_take]; rfl)) ?_; (with_reducible refine (relax_May.calls a0 _ _ l1 true _ ?side1 ?side2 A3.out).mono ?_); (case side1 => repeat (first | exact HR1.out | (with_reducible refine Kd.C_alloc ?_ _) | (with_reducible refine Kd.C_drewN ?_ _) | (with_reducible refine Kd.C_drew ?_))); (case side2 => exact HC1.out); rintro e w7 ⟨rfl, hb⟩; refine ⟨_, rfl, ?_⟩; have n0_ := Aside0.mk (below_step (by repeat (first | (with_reducible first | exact HB.out | apply below_alloc | apply pw_below_drewN | apply below_drew1) | exact HB.out)) hb); clear HB; have HB := n0_; clear n0_; (try clear hb); (try clear hb2); (try clear hk); (try clear hi)) | ((with_reducible refine gate_callee (f := 38) rfl ?_); refine goesL_ (some 14) rfl rfl Try.func38 (by kernel_rfl) rfl #[.int .i64 a0, .int .i64 0] rfl (by (try simp only [List.map_toArray, List.map_cons, List.map_nil]); first | done | rfl | (simp only [List.length_drop, List.length_take]; rfl)) ?_; (with_reducible refine (relax_row_int64.calls a0 0 t179 _ A5.out).mono ?_); rintro e w8 ⟨v180, rfl, ho0, hb⟩; refine ⟨_, rfl, ?_⟩; have n0_ := Aside0.mk (Kd.R_lower (Kd.R_newM (M := fun k_ => (w.heap.size ≤ k_)) ho0 (below_size (by repeat (first | (with_reducible first | exact HB.out | apply below_alloc | apply pw_below_drewN | apply below_drew1) | exact HB.out))) (fun k_ h_ => h_)) (below_size (by repeat (first | (with_reducible first | exact HB.out | apply below_alloc | apply pw_below_drewN | apply below_drew1) | exact HB.out)))); have n1_ := Aside0.mk (below_step (by repeat (first | (with_reducible first | exact HB.out | apply below_alloc | apply pw_below_drewN | apply below_drew1) | exact HB.out)) hb); clear HB; have HO181 := n0_; have HB := n1_; clear n0_ n1_; (try clear hb); (try clear hb2); (try clear hk); (try clear hi); (try clear ho0); obtain ⟨Ao9, co9, eo9⟩ := Kd.R_slice HO181.out; subst eo9) | ((with_reducible refine gate_dst (N := 15) rfl ?_); refine Kd.N_lit (Kd.slice 2 (Kd.int .i64)) _ 23 ?hg (N' := 15) ?hd (xs := ([t179] : List (List Int))) (inner := [.slice Ao9 t179.length co9]) (ok := (fun k_ => (w.heap.size ≤ k_))) (okp := (fun k_ => (w.heap.size ≤ k_))) ?hr ?hp (fun _ hk => hk) ((show ∀ k_, w8.heap.size ≤ k_ → (fun k_ => (w.heap.size ≤ k_)) k_ from fun k_ hk => (Nat.le_trans (below_size (by repeat (first | (with_reducible first | exact HB.out | apply below_alloc | apply pw_below_drewN | apply below_drew1) | exact HB.out))) hk)) _ (Nat.le_refl _)) (Below.refl _ _) (Nat.le_refl _) (by simp) ?_; (case hd => rfl); (case hg => rfl); (case hr => first | (go_simp; done) | (go_simp; rfl)); (case hp => exact (Reps.one (show Kd.FK (Kd.slice 2 (Kd.int .i64)) _ _ t179 [.slice Ao9 t179.length co9] from (Kd.FK_slice_mk (Kd.R_reads' (Kd.R_mono (ok' := (fun k_ => (w.heap.size ≤ k_))) (HO181.out) (fun k_ hk => hk.1))).2.1 (Kd.R_F (Kd.R_mono (ok' := (fun k_ => (w.heap.size ≤ k_))) (HO181.out) (fun k_ hk => hk.1))))) (Reps.none _ _))); intro v183 w10 ho11 hb hg_ hnew_; clear hg_ hnew_; (first | rw [← Ny182.out] at ho11 | (simp only [Int.reduceToNat] at ho11; rw [← Ny182.out] at ho11)); have n0_ := Aside0.mk (Kd.N_lower ho11 (below_size (by repeat (first | (with_reducible first | exact HB.out | apply below_alloc | apply pw_below_drewN | apply below_drew1) | exact HB.out)))); have n1_ := Aside0.mk (below_step (by repeat (first | (with_reducible first | exact HB.out | apply below_alloc | apply pw_below_drewN | apply below_drew1) | exact HB.out)) hb); clear HB; clear HO181; have HO184 := n0_; have HB := n1_; clear n0_ n1_; clear hb ho11) | ((with_reducible refine gate_callee (f := 39) rfl ?_); refine goesL_ (some 17) rfl rfl Try.func39 (by kernel_rfl) rfl #[.int .i64 a0, .int .i64 (-1)] rfl (by (try simp only [List.map_toArray, List.map_cons, List.map_nil]); first | done | rfl | (simp only [List.length_drop, List.length_take]; rfl)) ?_; (with_reducible refine (relax_row_int.calls a0 (-1) t185 _ A6.out).mono ?_); rintro e w12 ⟨v186, rfl, ho0, hb⟩; refine ⟨_, rfl, ?_⟩; have n0_ := Aside0.mk (Kd.N_elder' (by (with_reducible repeat (first | apply Kd.N_alloc | apply Kd.N_drewN | apply Kd.N_drew)); exact HO184.out) (Kd.R_base ho0) hb); have n1_ := Aside0.mk (Kd.R_lower (Kd.R_newM (M := fun k_ => (w.heap.size ≤ k_)) ho0 (below_size (by repeat (first | (with_reducible first | exact HB.out | apply below_alloc | apply pw_below_drewN | apply below_drew1) | exact HB.out))) (fun k_ h_ => h_)) (below_size (by repeat (first | (with_reducible first | exact HB.out | apply below_alloc | apply pw_below_drewN | apply below_drew1) | exact HB.out)))); have n2_ := Aside0.mk (below_step (by repeat (first | (with_reducible first | exact HB.out | apply below_alloc | apply pw_below_drewN | apply below_drew1) | exact HB.out)) hb); clear HO184; clear HB; have HO184 := n0_; have HO187 := n1_; have HB := n2_; clear n0_ n1_ n2_; (try clear hb); (try clear hb2); (try clear hk); (try clear hi); (try clear ho0); obtain ⟨Ao13, co13, eo13⟩ := Kd.R_slice HO187.out; subst eo13) | ((with_reducible refine gate_dst (N := 18) rfl ?_); refine Kd.N_lit (Kd.slice 3 (Kd.int .i64)) _ 37 ?hg (N' := 18) ?hd (xs := ([t185] : List (List Int))) (inner := [.slice Ao13 t185.length co13]) (ok := (fun k_ => (w.heap.size ≤ k_) ∧ some k_ ≠ (v183 : Value).ownBlock)) (okp := (fun k_ => (w.heap.size ≤ k_) ∧ some k_ ≠ (v183 : Value).ownBlock)) ?hr ?hp (fun _ hk => hk) ((show ∀ k_, w12.heap.size ≤ k_ → (fun k_ => (w.heap.size ≤ k_) ∧ some k_ ≠ (v183 : Value).ownBlock) k_ from fun k_ hk => ⟨(Nat.le_trans (below_size (by repeat (first | (with_reducible first | exact HB.out | apply below_alloc | apply pw_below_drewN | apply below_drew1) | exact HB.out))) hk), Kd.fresh' (Kd.N_lt (by (with_reducible repeat (first | apply Kd.N_alloc | apply Kd.N_drewN | apply Kd.N_drew)); exact HO184.out)) k_ hk⟩) _ (Nat.le_refl _)) (Below.refl _ _) (Nat.le_refl _) (by simp) ?_; (case hd => rfl); (case hg => rfl); (case hr => first | (go_simp; done) | (go_simp; rfl)); (case hp => exact (Reps.one (show Kd.FK (Kd.slice 3 (Kd.int .i64)) _ _ t185 [.slice Ao13 t185.length co13] from (Kd.FK_slice_mk (Kd.R_reads' (Kd.R_mono (ok' := (fun k_ => (w.heap.size ≤ k_) ∧ some k_ ≠ (v183 : Value).ownBlock)) (Kd.R_apart' (HO187.out) (Kd.N_typed HO184.out) (by decide)) (fun k_ hk => ⟨hk.1.1, hk.2⟩))).2.1 (Kd.R_F (Kd.R_mono (ok' := (fun k_ => (w.heap.size ≤ k_) ∧ some k_ ≠ (v183 : Value).ownBlock)) (Kd.R_apart' (HO187.out) (Kd.N_typed HO184.out) (by decide)) (fun k_ hk => ⟨hk.1.1, hk.2⟩))))) (Reps.none _ _))); intro v189 w14 ho15 hb hg_ hnew_; clear hg_ hnew_; (first | rw [← Ny188.out] at ho15 | (simp only [Int.reduceToNat] at ho15; rw [← Ny188.out] at ho15)); have n0_ := Aside0.mk (Kd.N_elder' (by (with_reducible repeat (first | apply Kd.N_alloc | apply Kd.N_drewN | apply Kd.N_drew)); exact HO184.out) (Kd.N_base ho15) hb); have n1_ := Aside0.mk (Kd.N_lower ho15 (below_size (by repeat (first | (with_reducible first | exact HB.out | apply below_alloc | apply pw_below_drewN | apply below_drew1) | exact HB.out)))); have n2_ := Aside0.mk (below_step (by repeat (first | (with_reducible first | exact HB.out | apply below_alloc | apply pw_below_drewN | apply below_drew1) | exact HB.out)) hb); clear HO184; clear HB; clear HO187; have HO184 := n0_; have HO190 := n1_; have HB := n2_; clear n0_ n1_ n2_; clear hb ho15))
    go_loopg [4, 5, 20] k (fun kq v4 v5 v20 w' => ∃ (x4_1 : List (List Int)) (x5_1 : List (List Int)) (x20_1 : Int), v20 = .int .i64 x20_1 ∧ Aside0 (relax_Layers.l0 kq l1 x4_1 x5_1 a0 x20_1 = some (r1, r2)) ∧ Aside0 (kq ≤ k) ∧ Aside0 (Kd.N (Kd.slice 2 (Kd.int .i64)) 23 w' w.heap.size (fun k_ => (w.heap.size ≤ k_) ∧ some k_ ≠ (v5 : Value).ownBlock) v4 x4_1) ∧ Aside0 (Kd.N (Kd.slice 3 (Kd.int .i64)) 37 w' w.heap.size (fun k_ => (w.heap.size ≤ k_) ∧ some k_ ≠ (v4 : Value).ownBlock) v5 x5_1) ∧ Aside0 (Below w.heap.size w w'))
    case atStart => exact ⟨(y182), (y188), (0), (by first | rfl | (simp; done) | (simp [*]; done)), H', ⟨Nat.le_refl _⟩, ⟨by (with_reducible repeat (first | apply Kd.N_alloc | apply Kd.N_drewN | apply Kd.N_drew)); exact Kd.N_mono HO184.out (fun _ hk => ⟨hk.1.1, hk.2⟩)⟩, ⟨by (with_reducible repeat (first | apply Kd.N_alloc | apply Kd.N_drewN | apply Kd.N_drew)); exact HO190.out⟩, ⟨by repeat (first | (with_reducible first | exact HB.out | apply below_alloc | apply pw_below_drewN | apply below_drew1) | exact HB.out)⟩⟩
    case round =>
      clear H'
      try clear c1
      try clear c2
      try clear p2
      try clear c3
      try clear c4
      obtain ⟨x4_1, x5_1, x20_1, rfl, HA, HK1, HO_4, HO_5, HB⟩ := hrel
      cases gk with
      | zero => exact absurd HA.out (by simp [relax_Layers.l0])
      | succ k1 =>
        have H := HA.out
        clear HA
        simp only [relax_Layers.l0] at H
        by_cases c16 : x20_1 < a0
        · rw [if_pos c16] at H
          have c16b0 : decide (x20_1 < a0) = true := decide_eq_true c16
          clear c16
          by_cases c17 : 0 ≤ x20_1
          · rw [if_pos c17] at H
            have c17b0 : decide (0 ≤ x20_1) = true := decide_eq_true c17
            clear c17
            by_cases c18 : x20_1 < (x4_1.length : Int)
            · rw [if_pos c18] at H
              have c18b0 : decide (x20_1 < (x4_1.length : Int)) = true := decide_eq_true c18
              clear c18
              replace H := Option.bind_eq_some_iff.mp H
              obtain ⟨⟨t192, t193⟩, A190, H⟩ := H
              replace H : (if x4_1.length < 5864062014805 then (if x5_1.length < 5864062014805 then (relax_Layers.l0 k1 l1 (x4_1 ++ [t192]) (x5_1 ++ [t193]) a0 (wrap64 (x20_1 + 1))) else (none)) else (none)) = some (r1, r2) := H
              have A19 := Aside0.mk A190
              clear A190
              by_cases c20 : x4_1.length < 5864062014805
              · rw [if_pos c20] at H
                have LMc20 := Aside0.mk c20
                clear c20
                obtain ⟨y198, hy198⟩ : ∃ y_ : List (List Int), y_ = (x4_1 ++ [t192]) := ⟨_, rfl⟩
                replace H : (if x5_1.length < 5864062014805 then (relax_Layers.l0 k1 l1 y198 (x5_1 ++ [t193]) a0 (wrap64 (x20_1 + 1))) else (none)) = some (r1, r2) := by first | (rw [hy198]; with_reducible exact H) | (have H2_ := (Option.bind_some _ _).symm.trans H; rw [hy198]; with_reducible exact H2_) | (have H2_ := (Option.bind_some _ _).symm.trans H; with_reducible exact H2_) | with_reducible exact H | (rw [hy198]; exact H) | exact H
                have Ny198 := Aside0.mk hy198
                clear hy198
                by_cases c21 : x5_1.length < 5864062014805
                · rw [if_pos c21] at H
                  have LMc21 := Aside0.mk c21
                  clear c21
                  obtain ⟨y201, hy201⟩ : ∃ y_ : List (List Int), y_ = (x5_1 ++ [t193]) := ⟨_, rfl⟩
                  replace H : (relax_Layers.l0 k1 l1 y198 y201 a0 (wrap64 (x20_1 + 1))) = some (r1, r2) := by first | (rw [hy201]; with_reducible exact H) | (have H2_ := (Option.bind_some _ _).symm.trans H; rw [hy201]; with_reducible exact H2_) | (have H2_ := (Option.bind_some _ _).symm.trans H; with_reducible exact H2_) | with_reducible exact H | (rw [hy201]; exact H) | exact H
                  have Ny201 := Aside0.mk hy201
                  clear hy201
                  have H' := Aside0.mk H
                  clear H
                  obtain ⟨Ao22, co22, eo22⟩ := Kd.N_slice HO_4.out
                  subst eo22
                  have p191 : 0 ≤ (x20_1 : Int) := of_decide_eq_true (by first | (with_reducible assumption) | assumption)
                  have q191 : x20_1 < (x4_1.length : Int) := of_decide_eq_true (by first | (with_reducible assumption) | assumption)
                  obtain ⟨ad191, A191_0, c191_0, e191, hx191_0, hl191_0, hi191_0⟩ := at_L4 (Kd.N_reads' HO_4.out).2.2 x20_1 p191 q191
                  cases e191
                  obtain ⟨ce191, hce191, hMe191, hcc191⟩ := Kd.N_get HO_4.out [] x20_1 p191 (by first | exact q191 | exact of_decide_eq_true (by first | (with_reducible assumption) | assumption) | (have e_ := (Kd.N_reads' HO_4.out).1; omega))
                  obtain ⟨ua191_0, uc191_0, rfl, ul191_0, ge191_0⟩ := Kd.FK_slice_open hMe191
                  have hv191_0 := hcc191 0 _ rfl
                  rw [Nat.add_zero, show ((Kd.slice 2 (Kd.int .i64))).sz = 1 from rfl, Nat.mul_one] at hv191_0
                  replace hv191_0 := Option.some.inj (hv191_0.symm.trans hx191_0)
                  injection hv191_0 with hva_ hvn_ hvc_
                  rw [hva_] at ge191_0
                  rw [hvc_] at ul191_0
                  have HL191_0 := Aside0.mk (show Kd.V (Kd.int .i64) 2 _ w.heap.size _ _ (rd_L4 x4_1 x20_1) from Kd.V_mk ul191_0 ge191_0)
                  clear hva_ hvn_ hvc_ ge191_0 ul191_0
                  clear hcc191 hce191
                  have HR191_0 := Aside0.mk hi191_0
                  have HC191_0 := Aside0.mk hl191_0
                  clear hi191_0 hl191_0
                  replace p191 := eq_true p191
                  replace q191 := eq_true q191
                  go_wp2_with (first | ((with_reducible refine gate_callee (f := 40) rfl ?_); refine goesL_ (some 29) rfl rfl Try.func40 (by kernel_rfl) rfl #[.slice A191_0 (rd_L4 x4_1 x20_1).length c191_0, .slice A1 l1.length c1] rfl (by (try simp only [List.map_toArray, List.map_cons, List.map_nil]); first | done | rfl | (simp only [List.length_drop, List.length_take]; rfl)) ?_; (with_reducible refine (relax_next.calls _ _ (rd_L4 x4_1 x20_1) _ _ l1 t192 t193 _ ?side1 ?side2 ?side3 ?side4 A19.out).mono ?_); (case side1 => repeat (first | exact (by repeat (first | (with_reducible exact HR191_0.out) | (with_reducible refine Kd.C_alloc ?_ _) | (with_reducible refine Kd.C_drewN ?_ _) | (with_reducible refine Kd.C_drew ?_) | exact HR191_0.out)) | (with_reducible refine Kd.C_alloc ?_ _) | (with_reducible refine Kd.C_drewN ?_ _) | (with_reducible refine Kd.C_drew ?_))); (case side2 => exact HC191_0.out); (case side3 => repeat (first | exact (Kd.C_below HR1.out HB.out) | (with_reducible refine Kd.C_alloc ?_ _) | (with_reducible refine Kd.C_drewN ?_ _) | (with_reducible refine Kd.C_drew ?_))); (case side4 => exact HC1.out); rintro e w23 ⟨v194, v196, rfl, ho0, ho1, hb⟩; refine ⟨_, rfl, ?_⟩; have n0_ := Aside0.mk (Kd.N_mono (Kd.N_told (Kd.N_told (Kd.N_old (by (with_reducible repeat (first | apply Kd.N_alloc | apply Kd.N_drewN | apply Kd.N_drew)); exact HO_4.out) hb) (Kd.R_base ho0)) (Kd.R_base ho1)) (fun _ h_ => h_.1)); have n1_ := Aside0.mk (Kd.N_mono (Kd.N_told (Kd.N_told (Kd.N_old (by (with_reducible repeat (first | apply Kd.N_alloc | apply Kd.N_drewN | apply Kd.N_drew)); exact HO_5.out) hb) (Kd.R_base ho0)) (Kd.R_base ho1)) (fun _ h_ => h_.1)); have n2_ := Aside0.mk (Kd.V_mono (Kd.V_told (Kd.V_told (Kd.V_old (by (with_reducible repeat (first | apply Kd.V_alloc | apply Kd.V_drewN | apply Kd.V_drew)); exact HL191_0.out) hb) (Kd.R_base ho0)) (Kd.R_base ho1)) (fun _ h_ => h_.1)); have n3_ := Aside0.mk (Kd.R_lower (Kd.R_newM (M := fun k_ => (w.heap.size ≤ k_)) ho0 (below_size (by repeat (first | (with_reducible first | exact HB.out | apply below_alloc | apply pw_below_drewN | apply below_drew1) | exact HB.out))) (fun k_ h_ => h_)) (below_size (by repeat (first | (with_reducible first | exact HB.out | apply below_alloc | apply pw_below_drewN | apply below_drew1) | exact HB.out)))); have n4_ := Aside0.mk (Kd.R_lower (Kd.R_newM (M := fun k_ => (w.heap.size ≤ k_)) ho1 (below_size (by repeat (first | (with_reducible first | exact HB.out | apply below_alloc | apply pw_below_drewN | apply below_drew1) | exact HB.out))) (fun k_ h_ => h_)) (below_size (by repeat (first | (with_reducible first | exact HB.out | apply below_alloc | apply pw_below_drewN | apply below_drew1) | exact HB.out)))); have n5_ := Aside0.mk (Kd.C_below (by repeat (first | (with_reducible exact HR191_0.out) | (with_reducible refine Kd.C_alloc ?_ _) | (with_reducible refine Kd.C_drewN ?_ _) | (with_reducible refine Kd.C_drew ?_) | exact HR191_0.out)) hb); have n6_ := Aside0.mk (below_step (by repeat (first | (with_reducible first | exact HB.out | apply below_alloc | apply pw_below_drewN | apply below_drew1) | exact HB.out)) hb); clear HO_4; clear HO_5; clear HL191_0; clear HR191_0; clear HB; have HO_4 := n0_; have HO_5 := n1_; have HL191_0 := n2_; have HO195 := n3_; have HO197 := n4_; have HR191_0 := n5_; have HB := n6_; clear n0_ n1_ n2_ n3_ n4_ n5_ n6_; (try clear hb); (try clear hb2); (try clear hk); (try clear hi); (try clear ho0); (try clear ho1); obtain ⟨Ao25, co25, eo25⟩ := Kd.R_slice HO195.out; subst eo25) | ((with_reducible refine gate_builtin (b := .append) (xs := #[.tmp 32, .tmp 34]) rfl ?_); at_builtin; refine Kd.N_append (Kd.slice 2 (Kd.int .i64)) (w0 := w) w.heap.size rfl (.tmp 32) (.tmp 34) 30 23 (.slice none 0 0) 24 rfl Try.underlying30 info23 rfl (by decide) (by omega) (.slice (some ad191) x4_1.length co22) x4_1 t192 [.slice Ao25 t192.length co25] (fun k_ => (w.heap.size ≤ k_) ∧ some k_ ≠ (u5 : Value).ownBlock ∧ some k_ ≠ (v196 : Value).ownBlock) (fun k_ => ((fun k_ => (w.heap.size ≤ k_) ∧ some k_ ≠ (u5 : Value).ownBlock ∧ some k_ ≠ (v196 : Value).ownBlock)) k_ ∧ some k_ ≠ (.slice (some ad191) x4_1.length co22 : Value).ownBlock) rfl rfl ?aP (fun _ hk => hk) ?aF ?aO ?aB ?aS ?aL ?_; (case aP => exact (Kd.FK_slice_mk (Kd.R_reads' (Kd.R_mono (ok' := (fun k_ => ((fun k_ => (w.heap.size ≤ k_) ∧ some k_ ≠ (u5 : Value).ownBlock ∧ some k_ ≠ (v196 : Value).ownBlock)) k_ ∧ some k_ ≠ (.slice (some ad191) x4_1.length co22 : Value).ownBlock)) (Kd.R_apart' (Kd.R_apart' (Kd.R_apart' (HO195.out) (Kd.N_typed HO_5.out) (by decide)) (Kd.R_typed HO197.out) (by decide)) (Kd.N_typed HO_4.out) (by decide)) (fun k_ hk => ⟨⟨hk.1.1.1.1, ⟨hk.1.1.2, hk.1.2⟩⟩, hk.2⟩))).2.1 (Kd.R_F (Kd.R_mono (ok' := (fun k_ => ((fun k_ => (w.heap.size ≤ k_) ∧ some k_ ≠ (u5 : Value).ownBlock ∧ some k_ ≠ (v196 : Value).ownBlock)) k_ ∧ some k_ ≠ (.slice (some ad191) x4_1.length co22 : Value).ownBlock)) (Kd.R_apart' (Kd.R_apart' (Kd.R_apart' (HO195.out) (Kd.N_typed HO_5.out) (by decide)) (Kd.R_typed HO197.out) (by decide)) (Kd.N_typed HO_4.out) (by decide)) (fun k_ hk => ⟨⟨hk.1.1.1.1, ⟨hk.1.1.2, hk.1.2⟩⟩, hk.2⟩))))); (case aB => exact (by repeat (first | (with_reducible first | exact HB.out | apply below_alloc | apply pw_below_drewN | apply below_drew1) | exact HB.out))); (case aF => exact (fun k_ hk => ⟨(Nat.le_trans (below_size (by repeat (first | (with_reducible first | exact HB.out | apply below_alloc | apply pw_below_drewN | apply below_drew1) | exact HB.out))) hk), Kd.fresh' (Kd.N_lt (by (with_reducible repeat (first | apply Kd.N_alloc | apply Kd.N_drewN | apply Kd.N_drew)); exact HO_5.out)) k_ hk, Kd.fresh' (Kd.R_lt (by (with_reducible repeat (first | apply Kd.R_alloc | apply Kd.R_drewN | apply Kd.R_drew)); exact HO197.out)) k_ hk⟩)); (case aO => exact (by (with_reducible repeat (first | apply Kd.N_alloc | apply Kd.N_drewN | apply Kd.N_drew)); exact Kd.N_mono HO_4.out (fun _ hk => ⟨hk.1.1.1, ⟨hk.1.1.2, hk.2⟩⟩))); (case aS => exact (below_size (by repeat (first | (with_reducible first | exact HB.out | apply below_alloc | apply pw_below_drewN | apply below_drew1) | exact HB.out)))); (case aL => have := LMc20.out; omega); intro v199 w24 ho hb hg hat; rw [← Ny198.out] at ho; have n0_ := Aside0.mk (Kd.N_afterv (ok := (fun k_ => (w.heap.size ≤ k_) ∧ some k_ ≠ (.slice Ao25 t192.length co25 : Value).ownBlock ∧ some k_ ≠ (v196 : Value).ownBlock)) (by (with_reducible repeat (first | apply Kd.N_alloc | apply Kd.N_drewN | apply Kd.N_drew)); exact Kd.N_mono HO_5.out (fun _ hk => ⟨⟨hk.1.1.1, ⟨hk.1.2, hk.2⟩⟩, hk.1.1.2⟩)) hg hat); have n1_ := Aside0.mk (Kd.V_afterv (ok := (fun k_ => (w.heap.size ≤ k_) ∧ some k_ ≠ (u5 : Value).ownBlock ∧ some k_ ≠ (.slice Ao25 t192.length co25 : Value).ownBlock ∧ some k_ ≠ (v196 : Value).ownBlock)) (by (with_reducible repeat (first | apply Kd.V_alloc | apply Kd.V_drewN | apply Kd.V_drew)); exact Kd.V_mono HL191_0.out (fun _ hk => ⟨⟨hk.1.1.1.1, ⟨hk.1.1.1.2, ⟨hk.1.2, hk.2⟩⟩⟩, hk.1.1.2⟩)) hg hat); have n2_ := Aside0.mk (Kd.R_over' (by (with_reducible repeat (first | apply Kd.R_alloc | apply Kd.R_drewN | apply Kd.R_drew)); exact HO197.out) (Kd.N_typed (by (with_reducible repeat (first | apply Kd.N_alloc | apply Kd.N_drewN | apply Kd.N_drew)); exact HO_4.out)) (by decide) hg); have n3_ := Aside0.mk (hb); have n4_ := Aside0.mk (ho); clear HO_5; clear HL191_0; clear HO197; clear HB; clear HO_4; clear HO195; have HO_5 := n0_; have HL191_0 := n1_; have HO197 := n2_; have HB := n3_; have HO200 := n4_; clear n0_ n1_ n2_ n3_ n4_; clear ho hb hg hat; obtain ⟨Ao27, co27, eo27⟩ := Kd.R_slice HO197.out; subst eo27) | ((with_reducible refine gate_builtin (b := .append) (xs := #[.tmp 36, .tmp 38]) rfl ?_); at_builtin; refine Kd.N_append (Kd.slice 3 (Kd.int .i64)) (w0 := w) w.heap.size rfl (.tmp 36) (.tmp 38) 31 37 (.slice none 0 0) 24 rfl Try.underlying31 info37 rfl (by decide) (by omega) u5 x5_1 t193 [.slice Ao27 t193.length co27] (fun k_ => (w.heap.size ≤ k_) ∧ some k_ ≠ (v199 : Value).ownBlock) (fun k_ => ((fun k_ => (w.heap.size ≤ k_) ∧ some k_ ≠ (v199 : Value).ownBlock)) k_ ∧ some k_ ≠ (u5 : Value).ownBlock) rfl rfl ?aP (fun _ hk => hk) ?aF ?aO ?aB ?aS ?aL ?_; (case aP => exact (Kd.FK_slice_mk (Kd.R_reads' (Kd.R_mono (ok' := (fun k_ => ((fun k_ => (w.heap.size ≤ k_) ∧ some k_ ≠ (v199 : Value).ownBlock)) k_ ∧ some k_ ≠ (u5 : Value).ownBlock)) (Kd.R_apart' (Kd.R_apart' (HO197.out) (Kd.N_typed HO200.out) (by decide)) (Kd.N_typed HO_5.out) (by decide)) (fun k_ hk => ⟨⟨hk.1.1.1, hk.1.2⟩, hk.2⟩))).2.1 (Kd.R_F (Kd.R_mono (ok' := (fun k_ => ((fun k_ => (w.heap.size ≤ k_) ∧ some k_ ≠ (v199 : Value).ownBlock)) k_ ∧ some k_ ≠ (u5 : Value).ownBlock)) (Kd.R_apart' (Kd.R_apart' (HO197.out) (Kd.N_typed HO200.out) (by decide)) (Kd.N_typed HO_5.out) (by decide)) (fun k_ hk => ⟨⟨hk.1.1.1, hk.1.2⟩, hk.2⟩))))); (case aB => exact (by repeat (first | (with_reducible first | exact HB.out | apply below_alloc | apply pw_below_drewN | apply below_drew1) | exact HB.out))); (case aF => exact (fun k_ hk => ⟨(Nat.le_trans (below_size (by repeat (first | (with_reducible first | exact HB.out | apply below_alloc | apply pw_below_drewN | apply below_drew1) | exact HB.out))) hk), Kd.fresh' (Kd.N_lt (by (with_reducible repeat (first | apply Kd.N_alloc | apply Kd.N_drewN | apply Kd.N_drew)); exact HO200.out)) k_ hk⟩)); (case aO => exact (by (with_reducible repeat (first | apply Kd.N_alloc | apply Kd.N_drewN | apply Kd.N_drew)); exact Kd.N_mono HO_5.out (fun _ hk => ⟨hk.1.1, hk.2⟩))); (case aS => exact (below_size (by repeat (first | (with_reducible first | exact HB.out | apply below_alloc | apply pw_below_drewN | apply below_drew1) | exact HB.out)))); (case aL => have := LMc21.out; omega); intro v202 w26 ho hb hg hat; rw [← Ny201.out] at ho; have n0_ := Aside0.mk (Kd.V_afterv (ok := (fun k_ => (w.heap.size ≤ k_) ∧ some k_ ≠ (.slice Ao27 t193.length co27 : Value).ownBlock ∧ some k_ ≠ (v199 : Value).ownBlock)) (by (with_reducible repeat (first | apply Kd.V_alloc | apply Kd.V_drewN | apply Kd.V_drew)); exact Kd.V_mono HL191_0.out (fun _ hk => ⟨⟨hk.1.1, ⟨hk.1.2.2.2, hk.2⟩⟩, hk.1.2.1⟩)) hg hat); have n1_ := Aside0.mk (Kd.N_afterv (ok := (fun k_ => (w.heap.size ≤ k_) ∧ some k_ ≠ (.slice Ao27 t193.length co27 : Value).ownBlock)) (by (with_reducible repeat (first | apply Kd.N_alloc | apply Kd.N_drewN | apply Kd.N_drew)); exact Kd.N_mono HO200.out (fun _ hk => ⟨⟨hk.1, hk.2.2⟩, hk.2.1⟩)) hg hat); have n2_ := Aside0.mk (hb); have n3_ := Aside0.mk (ho); clear HL191_0; clear HO200; clear HB; clear HO_5; clear HO197; have HL191_0 := n0_; have HO200 := n1_; have HB := n2_; have HO203 := n3_; clear n0_ n1_ n2_ n3_; clear ho hb hg hat))
                  go_roundg k1
                  case measure => have := HK1.out; omega
                  case rel => exact ⟨(y198), (y201), (wrap64 (x20_1 + 1)), (by first | rfl | (simp; done) | (simp [*]; done)), H', ⟨by have := HK1.out; omega⟩, ⟨by (with_reducible repeat (first | apply Kd.N_alloc | apply Kd.N_drewN | apply Kd.N_drew)); exact Kd.N_mono HO200.out (fun _ hk => ⟨hk.1.1, hk.2⟩)⟩, ⟨by (with_reducible repeat (first | apply Kd.N_alloc | apply Kd.N_drewN | apply Kd.N_drew)); exact HO203.out⟩, ⟨by repeat (first | (with_reducible first | exact HB.out | apply below_alloc | apply pw_below_drewN | apply below_drew1) | exact HB.out)⟩⟩
                · rw [if_neg c21] at H
                  exact absurd H (by simp)
              · rw [if_neg c20] at H
                exact absurd H (by simp)
            · rw [if_neg c18] at H
              exact absurd H (by simp)
          · rw [if_neg c17] at H
            exact absurd H (by simp)
        · rw [if_neg c16] at H
          have c16b0 : decide (x20_1 < a0) = false := decide_eq_false c16
          clear c16
          simp only [Option.some.injEq, Prod.mk.injEq] at H
          obtain ⟨rfl, rfl⟩ := H
          go_wp2
          go_ret2
          exact ⟨_, _, by first | rfl | (simp [errW_none, errW_some] <;> rfl) | (simp [*, errW_none, errW_some] <;> rfl), by (with_reducible repeat (first | apply Kd.N_alloc | apply Kd.N_drewN | apply Kd.N_drew)); exact HO_4.out, by (with_reducible repeat (first | apply Kd.N_alloc | apply Kd.N_drewN | apply Kd.N_drew)); exact HO_5.out, by repeat (first | (with_reducible first | exact HB.out | apply below_alloc | apply pw_below_drewN | apply below_drew1) | exact HB.out)⟩
  · replace c4 := Bool.eq_false_iff.mpr c4
    subst c4
    have H1 : (some (([] : List (List Int)), ([] : List (List Int)))) = some (r1, r2) := by rw [if_neg (show ¬ (false = true) by decide)] at H; exact H
    clear H
    have H := H1
    clear H1
    simp only [Option.some.injEq, Prod.mk.injEq] at H
    obtain ⟨rfl, rfl⟩ := H
    go_enter Try.func21, Try.ntmps21
    go_wp2_with (first | ((with_reducible refine gate_callee (f := 23) rfl ?_); refine goesL_ (some 11) rfl rfl Try.func23 (by kernel_rfl) rfl #[.int .i64 a0, .slice A1 l1.length c1] rfl (by (try simp only [List.map_toArray, List.map_cons, List.map_nil]); first | done | rfl | (simp only [List.length_drop, List.length_take]; rfl)) ?_; (with_reducible refine (relax_May.calls a0 _ _ l1 false _ ?side1 ?side2 A3.out).mono ?_); (case side1 => repeat (first | exact HR1.out | (with_reducible refine Kd.C_alloc ?_ _) | (with_reducible refine Kd.C_drewN ?_ _) | (with_reducible refine Kd.C_drew ?_))); (case side2 => exact HC1.out); rintro e w28 ⟨rfl, hb⟩; refine ⟨_, rfl, ?_⟩; have n0_ := Aside0.mk (below_step (by repeat (first | (with_reducible first | exact HB.out | apply below_alloc | apply pw_below_drewN | apply below_drew1) | exact HB.out)) hb); clear HB; have HB := n0_; clear n0_; (try clear hb); (try clear hb2); (try clear hk); (try clear hi)))
    go_ret2
    exact ⟨_, _, by first | rfl | (simp [errW_none, errW_some] <;> rfl) | (simp [*, errW_none, errW_some] <;> rfl), by first | exact Kd.S_nil _ _ _ _ _ | exact Kd.N_nil _ _ _ _ _ | exact Kd.V_nil _ _ _ _ _ | exact Kd.Q_nil _ _ _ _ _ | exact Kd.R_nil _ _ _ _ _, by first | exact Kd.S_nil _ _ _ _ _ | exact Kd.N_nil _ _ _ _ _ | exact Kd.V_nil _ _ _ _ _ | exact Kd.Q_nil _ _ _ _ _ | exact Kd.R_nil _ _ _ _ _, by repeat (first | (with_reducible first | exact HB.out | apply below_alloc | apply pw_below_drewN | apply below_drew1) | exact HB.out)⟩

/-! ### api_Edge_66: function 66 -/
def api_Edge_66.f (l0 : List S48) (a1 : Int) : Option (List S48) := if l0.length = 0 ∧ 0 ≤ a1 ∧ a1 ≤ 1000000 then some [] else none
set_option maxHeartbeats 8000000 in
set_option maxRecDepth 100000 in
theorem api_Edge_66.calls (n : Int) (w : World) (h0 : 0 ≤ n) (h1 : n ≤ 1000000) : Calls Try.prog 66 #[.slice none 0 0, .int .i64 n] w fun e w' => ∃ v : Value, e = .returned v ∧ Kd.R k48 48 w' w.heap.size (fun _ => True) v [] ∧ Below w.heap.size w w' := by
  have HB := Aside0.mk (Below.refl w.heap.size w)
  obtain ⟨i0_, hi0_, _, hsz_, _⟩ := info_parts info48
  have hcutA := cut_to (P := Try.prog) 22 48 .i64 Try.underlying22 hi0_ none 0 0 0 (by decide) (by decide) (by decide)
  have hcutB := fun (A : Option Addr) (m c : Nat) (hc : m ≤ c) => cut_to (P := Try.prog) 22 48 .i64 Try.underlying22 hi0_ A m c 0 (by decide) (by omega) hc
  clear hi0_ hsz_
  have hlt : ¬ n < 0 := by omega
  by_cases hn : n = 0
  · subst hn
    go_enter Try.func66, Try.ntmps66
    go_wp2_with (fail)
    go_ret
    exact ⟨_, rfl, Kd.R_nil _ _ _ _ _, HB.out⟩
  · have hgt : n > 0 := by omega
    go_enter Try.func66, Try.ntmps66
    go_wp2_with (first
      | (at_builtin; (refine Kd.R_append_zeros k48 (w0 := w) w.heap.size rfl (.tmp 20) (.tmp 21) 22 3 48 (.agg #[(.int .i64 0), (.int .i64 0), (.int .i64 0), (.int .i64 0), (.int .i64 0), (.bool false)]) 48 rfl Try.underlying22 Try.underlying3 info48 rfl (by decide) (by omega) (.slice none 0 0) [] ⟨0, 0, 0, ⟨0, 0⟩, false⟩ n (fun _ => True) rfl rfl ?hzero (fun _ _ => trivial) (Kd.R_nil _ _ _ _ _) h0 HB.out (Nat.le_refl _) (by simp only [List.length_nil]; omega) ?_; (case hzero => exact k48_mkM _ _ _ _); intro v2 w2 ho hb hg hat; clear hg hat; obtain ⟨A2, c2, rfl⟩ := Kd.R_slice ho; have hcut2 := hcutB A2 _ c2 (Kd.R_reads' ho).2.1; have HO2 := Aside0.mk ho; have HB2 := Aside0.mk hb; clear ho hb)))
    go_ret
    exact ⟨_, rfl, Kd.R_take (m := 0) HO2.out (Nat.zero_le _), HB2.out⟩


/-! ### api_Edge_58: function 58 -/
def api_Edge_58.f (l0 : List (List S48)) : Option (List S48) := none
set_option maxHeartbeats 8000000 in
set_option maxRecDepth 100000 in
theorem api_Edge_58.calls (b cs : Nat) (A1 : Option Addr) (c1 : Nat) (l1 : List S48) (A2 : Option Addr) (c2 : Nat) (l2 : List S48) (w : World) (hb0 : w.cell? ⟨b, 0, none⟩ = some (.slice A1 l1.length c1)) (hb1 : w.cell? ⟨b, 1, none⟩ = some (.slice A2 l2.length c2))
    (hr1 : Kd.C k48 w A1 l1.length l1) (hc1 : l1.length ≤ c1) (hr2 : Kd.C k48 w A2 l2.length l2) (hc2 : l2.length ≤ c2) (hl1 : l1.length ≤ 100000) (hl2 : l2.length ≤ 100000) :
    Calls Try.prog 58 #[.slice (some ⟨b, 0, none⟩) 2 cs] w fun e w' => ∃ v : Value, e = .returned v ∧ Kd.R k48 48 w' w.heap.size (fun _ => True) v (l1 ++ l2) ∧ Below w.heap.size w w' := by
  have HR1 := Aside0.mk hr1
  have HR2 := Aside0.mk hr2
  have HC1 := Aside0.mk hc1
  have HC2 := Aside0.mk hc2
  have HB0 := Aside0.mk hb0
  have HB1 := Aside0.mk hb1
  clear hr1 hr2 hc1 hc2
  go_enter Try.func58, Try.ntmps58
  go_wp2_with (fail)
  go_loopg [3, 11] 2 (fun d v3 v11 wr => w = wr ∧ (d = 2 ∧ v3 = .int .i64 0 ∧ v11 = .int .i64 0 ∨ d = 1 ∧ v3 = .int .i64 l1.length ∧ v11 = .int .i64 1 ∨ d = 0 ∧ v3 = .int .i64 (l1.length + l2.length) ∧ v11 = .int .i64 2))
  case atStart => exact ⟨rfl, .inl ⟨rfl, rfl, rfl⟩⟩
  case round =>
    obtain ⟨rfl, ⟨rfl, rfl, rfl⟩ | ⟨rfl, rfl, rfl⟩ | ⟨rfl, rfl, rfl⟩⟩ := hrel
    · have hnn : ¬ (l1.length : Int) < 0 := by omega
      go_wp2_with (fail)
      go_roundg 1
      case measure => omega
      case rel => exact ⟨rfl, .inr (.inl ⟨rfl, by first | rfl | go_num, rfl⟩)⟩
    · have hnn : ¬ (l1.length : Int) + (l2.length : Int) < 0 := by omega
      go_wp2_with (fail)
      go_roundg 0
      case measure => omega
      case rel => exact ⟨rfl, .inr (.inr ⟨rfl, by first | rfl | go_num, rfl⟩)⟩
    · go_wp2_with (fail)
      refine (api_Edge_66.calls ((l1.length : Int) + (l2.length : Int)) w (by omega) (by omega)).mono ?_
      rintro e w2 ⟨v2, rfl, hO, hB⟩
      obtain ⟨A0, c0, rfl⟩ := Kd.R_slice hO
      have HO := Aside0.mk hO
      have HB := Aside0.mk hB
      clear hO hB hb0 hb1
      go_wp2_with (fail)
      go_loopg [6, 27] 2 (fun d v6 v27 wr => (d = 2 ∧ v27 = .int .i64 0 ∧ Aside0 (Kd.R k48 48 wr w.heap.size (fun _ => True) v6 []) ∨ d = 1 ∧ v27 = .int .i64 1 ∧ Aside0 (Kd.R k48 48 wr w.heap.size (fun _ => True) v6 l1) ∨ d = 0 ∧ v27 = .int .i64 2 ∧ Aside0 (Kd.R k48 48 wr w.heap.size (fun _ => True) v6 (l1 ++ l2))) ∧ Aside0 (Below w.heap.size w wr))
      case atStart => exact ⟨.inl ⟨rfl, rfl, HO⟩, HB⟩
      case round =>
        clear HO HB
        obtain ⟨hc, HB⟩ := hrel
        rcases hc with ⟨rfl, rfl, HO⟩ | ⟨rfl, rfl, HO⟩ | ⟨rfl, rfl, HO⟩
        · obtain ⟨A3, c3, e⟩ := Kd.R_slice HO.out
          subst e
          have hx0 := (HB.out.cell (World.block_lt_of_cell? w _ HB0.out)).trans HB0.out
          go_wp2_with (first
            | (at_builtin; refine Kd.R_append_rows k48 (w0 := w) w.heap.size rfl (.tmp 31) (.tmp 32) 22 48 (.agg #[.int .i64 0, .int .i64 0, .int .i64 0, .int .i64 0, .int .i64 0, .bool false]) 48 rfl Try.underlying22 info48 rfl (by decide) (by omega) _ [] l1 _ _ _ (fun _ => True) (fun _ => False) rfl rfl HO.out (Kd.C_below HR1.out HB.out) (fun _ _ h => h) (fun _ h => h.elim) (fun _ _ => trivial) HB.out (below_size HB.out) (by simp only [List.length_nil]; omega) ?_; intro v2 w2 ho hb hg hat; clear hg hat hx0; have HO2 := Aside0.mk ho; have HB2 := Aside0.mk hb; clear ho hb))
          go_roundg 1
          case measure => omega
          case rel => exact ⟨.inr (.inl ⟨rfl, rfl, HO2⟩), HB2⟩
        · obtain ⟨A3, c3, e⟩ := Kd.R_slice HO.out
          subst e
          have hx0 := (HB.out.cell (World.block_lt_of_cell? w _ HB1.out)).trans HB1.out
          go_wp2_with (first
            | (at_builtin; refine Kd.R_append_rows k48 (w0 := w) w.heap.size rfl (.tmp 31) (.tmp 32) 22 48 (.agg #[.int .i64 0, .int .i64 0, .int .i64 0, .int .i64 0, .int .i64 0, .bool false]) 48 rfl Try.underlying22 info48 rfl (by decide) (by omega) _ l1 l2 _ _ _ (fun _ => True) (fun _ => False) rfl rfl HO.out (Kd.C_below HR2.out HB.out) (fun _ _ h => h) (fun _ h => h.elim) (fun _ _ => trivial) HB.out (below_size HB.out) (by omega) ?_; intro v2 w2 ho hb hg hat; clear hg hat hx0; have HO2 := Aside0.mk ho; have HB2 := Aside0.mk hb; clear ho hb))
          go_roundg 0
          case measure => omega
          case rel => exact ⟨.inr (.inr ⟨rfl, rfl, HO2⟩), HB2⟩
        · obtain ⟨A3, c3, e⟩ := Kd.R_slice HO.out
          subst e
          go_wp2_with (fail)
          go_ret
          exact ⟨_, rfl, by have h_ := HO.out; rw [List.length_append] at h_; exact h_, HB.out⟩


/-! ### loop_turned: function 46 -/
def loop_turned_x (l : List S48) (j : Nat) : Int := (rd_T48 l (j : Int)).f0
def loop_turned_ls (l : List S48) : Nat := Go.Proofs.Ytacjlaiddnfpdaa.H.lsI (loop_turned_x l) l.length
def loop_turned.f (l0 : List S48) : Option (List S48) := if l0.length ≤ 100000 then some (l0.drop (loop_turned_ls l0) ++ l0.take (loop_turned_ls l0)) else none
theorem loop_turned_at {w W : World} {A : Option Addr} {l : List S48} (h : Kd.C k48 w A l.length l) (hb : Below w.heap.size w W) (i : Nat) (hi : i < l.length) (x : S48) (hx : rd_T48 l (i : Int) = x) : ∃ ad, A = some ad ∧ W.cell? (ad.add (i * 6)) = some (.int .i64 x.f0) ∧ W.cell? ⟨(ad.add (i * 6)).block, (ad.add (i * 6)).off + 1, none⟩ = some (.int .i64 x.f1) ∧ W.cell? ⟨(ad.add (i * 6)).block, (ad.add (i * 6)).off + 2, none⟩ = some (.int .i64 x.f2) ∧ W.cell? ⟨(ad.add (i * 6)).block, (ad.add (i * 6)).off + 3, none⟩ = some (.int .i64 x.f3.f0) ∧ W.cell? ⟨(ad.add (i * 6)).block, (ad.add (i * 6)).off + 4, none⟩ = some (.int .i64 x.f3.f1) ∧ W.cell? ⟨(ad.add (i * 6)).block, (ad.add (i * 6)).off + 5, none⟩ = some (.bool x.f4) := by
  subst hx
  obtain ⟨ad, e, h0, h1, h2, h3, h4, h5⟩ := at_T48 h (i : Int) (by omega) (by omega)
  simp only [Int.toNat_natCast] at h0 h1 h2 h3 h4 h5
  exact ⟨ad, e, (hb.cell (World.block_lt_of_cell? w _ h0)).trans h0, (hb.cell (World.block_lt_of_cell? w _ h1)).trans h1, (hb.cell (World.block_lt_of_cell? w _ h2)).trans h2, (hb.cell (World.block_lt_of_cell? w _ h3)).trans h3, (hb.cell (World.block_lt_of_cell? w _ h4)).trans h4, (hb.cell (World.block_lt_of_cell? w _ h5)).trans h5⟩
theorem loop_turned_mem {l : List S48} (j : Nat) (h : j < l.length) : rd_T48 l (j : Int) = l[j] := by
  show l.getD _ _ = _
  rw [Int.toNat_natCast, List.getD_eq_getElem?_getD, List.getElem?_eq_getElem h]; rfl
set_option maxHeartbeats 8000000 in
set_option maxRecDepth 100000 in
theorem loop_turned.calls (A0 : Option Addr) (c0 : Nat) (l0 : List S48) (r : List S48) (w : World) (hr0 : Kd.C k48 w A0 l0.length l0) (hc0 : l0.length ≤ c0) (h : loop_turned.f l0 = some r) :
    Calls Try.prog 46 #[.slice A0 l0.length c0] w fun e w' => ∃ v0_ : Value, e = .returned (v0_) ∧ Kd.R k48 48 w' w.heap.size (fun _ => True) v0_ r ∧ Below w.heap.size w w' := by
  have hu_ := Try.underlying48
  unfold loop_turned.f at h
  by_cases hl : l0.length ≤ 100000
  case neg => rw [if_neg hl] at h; cases h
  rw [if_pos hl] at h
  obtain rfl := Option.some.inj h
  clear h
  have HR := Aside0.mk hr0
  have HC := Aside0.mk hc0
  have HB := Aside0.mk (Below.refl w.heap.size w)
  clear hr0 hc0
  go_enter Try.func46, Try.ntmps46
  go_wp2_with (fail)
  go_loopg [3, 8] l0.length (fun d v3 v8 wr => ∃ (i s : Nat), i + d = l0.length ∧ s = Go.Proofs.Ytacjlaiddnfpdaa.H.lsI (loop_turned_x l0) i ∧ v3 = .int .i64 s ∧ v8 = .int .i64 i ∧ Aside0 (Below w.heap.size w wr))
  case atStart => exact ⟨0, 0, by omega, rfl, rfl, rfl, HB⟩
  case round =>
    clear HB
    obtain ⟨i, s, hi, hs, rfl, rfl, HB⟩ := hrel
    by_cases hlt : i < l0.length
    · have hltz : (i : Int) < (l0.length : Int) := by omega
      have hsl : s < l0.length := by
        have := Go.Proofs.Ytacjlaiddnfpdaa.H.lsI_le_n (loop_turned_x l0) i
        omega
      have hslz : (s : Int) < (l0.length : Int) := by omega
      obtain ⟨x, hx⟩ : ∃ x, rd_T48 l0 (i : Int) = x := ⟨_, rfl⟩
      obtain ⟨ad, e, h0, h1, h2, h3, h4, h5⟩ := loop_turned_at HR.out HB.out i hlt x hx
      cases e
      have HBA := Aside0.mk (below_alloc HB.out (.cells #[.int .i64 x.f0, .int .i64 x.f1, .int .i64 x.f2, .int .i64 x.f3.f0, .int .i64 x.f3.f1, .bool x.f4] 48 (0, 0)))
      have HBK := Aside0.mk (blk_new wr (.cells #[.int .i64 x.f0, .int .i64 x.f1, .int .i64 x.f2, .int .i64 x.f3.f0, .int .i64 x.f3.f1, .bool x.f4] 48 (0, 0)))
      obtain ⟨y, hy⟩ : ∃ y, rd_T48 l0 (s : Int) = y := ⟨_, rfl⟩
      have hst : Go.Proofs.Ytacjlaiddnfpdaa.H.lsI (loop_turned_x l0) (i + 1) = if x.f0 < y.f0 then i else s := by
        show (if loop_turned_x l0 i < loop_turned_x l0 (Go.Proofs.Ytacjlaiddnfpdaa.H.lsI (loop_turned_x l0) i) then i else Go.Proofs.Ytacjlaiddnfpdaa.H.lsI (loop_turned_x l0) i) = _
        rw [← hs]
        show (if (rd_T48 l0 (i : Int)).f0 < (rd_T48 l0 (s : Int)).f0 then i else s) = _
        rw [hx, hy]
      have HST := Aside0.mk hst
      clear hst hs hx
      go_wp2_with (fail)
      clear h0 h1 h2 h3 h4 h5
      obtain ⟨ad2, e, g0, g1, g2, g3, g4, g5⟩ := loop_turned_at HR.out HBA.out s hsl y hy
      cases e
      have b0 := blk_cell HBK.out 0
      clear hy
      by_cases ct : x.f0 < y.f0
      · have HS2 := Aside0.mk (show i = Go.Proofs.Ytacjlaiddnfpdaa.H.lsI (loop_turned_x l0) (i + 1) by rw [HST.out, if_pos ct])
        clear HST
        go_quiet (fail)
        go_wp2_with (fail)
        go_roundg (gk - 1)
        case measure => omega
        case rel => exact ⟨i + 1, i, by omega, HS2.out, rfl, by go_num, ⟨pw_below_drewN HBA.out _⟩⟩
      · have HS2 := Aside0.mk (show s = Go.Proofs.Ytacjlaiddnfpdaa.H.lsI (loop_turned_x l0) (i + 1) by rw [HST.out, if_neg ct])
        clear HST
        go_quiet (fail)
        go_wp2_with (fail)
        go_roundg (gk - 1)
        case measure => omega
        case rel => exact ⟨i + 1, s, by omega, HS2.out, rfl, by go_num, ⟨pw_below_drewN HBA.out _⟩⟩
    · have hltz : ¬ (i : Int) < (l0.length : Int) := by omega
      obtain rfl : i = l0.length := by omega
      have hsl : s ≤ l0.length := by
        have := Go.Proofs.Ytacjlaiddnfpdaa.H.lsI_le_n (loop_turned_x l0) l0.length
        omega
      have HLS := Aside0.mk (show s = loop_turned_ls l0 from hs)
      clear hs
      obtain ⟨i0_, hi0_, _, hsz_, _⟩ := info_parts info48
      have hcutA := cut_from (P := Try.prog) 22 48 .i64 Try.underlying22 hi0_ 6 hsz_ A0 l0.length c0 (s : Int) (by omega) (by omega)
      have hcutB := cut_to (P := Try.prog) 22 48 .i64 Try.underlying22 hi0_ A0 l0.length c0 (s : Int) (by omega) (by omega) HC.out
      have hCA := Kd.C_drop HR.out hsl HC.out
      have hCB := Kd.C_take HR.out hsl
      simp only [Int.toNat_natCast] at hcutA hcutB
      rw [show (k48).sz = 6 from rfl] at hCA
      generalize (if c0 = s then A0 else A0.map (·.add (s * 6))) = A5 at hcutA hCA
      have HCA := Aside0.mk hCA
      have HCB := Aside0.mk hCB
      clear hCA hCB hi0_ hsz_
      have HBD := Aside0.mk (below_drew1 HB.out)
      go_wp2_with (fail)
      refine start_ (n := 9) (S := fun w' => True) (ds := []) #[false, false, false, false, false, false, false, false, false] (by kernel_rfl) rfl rfl trivial (fun hHeld => ?_)
      refine pure_ (i := 0) (N := some 23) (v := ?_) (a' := ?_) #[true, false, false, false, false, false, false, false, false] rfl rfl (by kernel_rfl) (fun _ _ _ h => h) (Or.inl ⟨by rfl, ?_⟩) ?_ ?_
      rotate_left
      · intro w'
        go_simp
        with_reducible rfl
      rotate_left
      · simp only [Act.put, List.setIfInBounds_toArray, List.set_cons_zero, List.set_cons_succ, i64_w, i32_w]
        rfl
      refine pure_ (i := 1) (N := some 24) (v := ?_) (a' := ?_) #[true, true, false, false, false, false, false, false, false] rfl rfl (by kernel_rfl) (fun _ _ _ h => h) (Or.inl ⟨by rfl, ?_⟩) ?_ ?_
      rotate_left
      · intro w'
        go_simp
        with_reducible rfl
      rotate_left
      · simp only [Act.put, List.setIfInBounds_toArray, List.set_cons_zero, List.set_cons_succ, i64_w, i32_w]
        rfl
      refine pure_ (i := 2) (N := some 25) (v := ?_) (a' := ?_) #[true, true, true, false, false, false, false, false, false] rfl rfl (by kernel_rfl) (fun _ _ _ h => h) (Or.inl ⟨by rfl, ?_⟩) ?_ ?_
      rotate_left
      · intro w'
        go_simp
        with_reducible rfl
      rotate_left
      · simp only [Act.put, List.setIfInBounds_toArray, List.set_cons_zero, List.set_cons_succ, i64_w, i32_w]
        rfl
      refine pure_ (i := 3) (N := some 26) (v := ?_) (a' := ?_) #[true, true, true, true, false, false, false, false, false] rfl rfl (by kernel_rfl) (fun _ _ _ h => h) (Or.inl ⟨by rfl, ?_⟩) ?_ ?_
      rotate_left
      · intro w'
        go_simp
        with_reducible rfl
      rotate_left
      · simp only [Act.put, List.setIfInBounds_toArray, List.set_cons_zero, List.set_cons_succ, i64_w, i32_w]
        rfl
      refine pure_ (i := 4) (N := some 27) (v := ?_) (a' := ?_) #[true, true, true, true, true, false, false, false, false] rfl rfl (by kernel_rfl) (fun _ _ _ h => h) (Or.inl ⟨by rfl, ?_⟩) ?_ ?_
      rotate_left
      · intro w'
        go_simp
        with_reducible rfl
      rotate_left
      · simp only [Act.put, List.setIfInBounds_toArray, List.set_cons_zero, List.set_cons_succ, i64_w, i32_w]
        rfl
      refine pure_ (i := 5) (N := some 28) (v := ?_) (a' := ?_) #[true, true, true, true, true, true, false, false, false] rfl rfl (by kernel_rfl) (fun _ _ _ h => h) (Or.inl ⟨by rfl, ?_⟩) ?_ ?_
      rotate_left
      · intro w'
        go_simp
        with_reducible rfl
      rotate_left
      · simp only [Act.put, List.setIfInBounds_toArray, List.set_cons_zero, List.set_cons_succ, i64_w, i32_w]
        rfl
      refine one_ (i := 6) (N := some 29) #[true, true, true, true, true, true, true, false, false] rfl rfl (by kernel_rfl) (by decide) (fun K hK => ?_)
      refine event_step (w1 := wr.drew.alloc (.cells #[.slice A5 (l0.length - s) (c0 - s), .slice A0 s c0] 22 (0, 0))) (v := .slice (some ⟨wr.drew.heap.size, 0, none⟩) 2 2) ?hw ?hr ?_; (case hw => rfl); (case hr => first | (go_simp; done) | (go_simp; rfl))
      have HB2 := Aside0.mk (below_alloc HBD.out (.cells #[.slice A5 (l0.length - s) (c0 - s), .slice A0 s c0] 22 (0, 0)))
      have HK2 := Aside0.mk (blk_new wr.drew (.cells #[.slice A5 (l0.length - s) (c0 - s), .slice A0 s c0] 22 (0, 0)))
      refine hK.out _ _ trivial (fun hHeld => ?_)
      clear hK K
      refine norm_ (a' := ?_) ?_ ?_
      rotate_left
      · show Act.put _ (some 29) _ = _
        simp only [Act.put, List.setIfInBounds_toArray, List.set_cons_zero, List.set_cons_succ, i64_w, i32_w]
        rfl
      refine one_ (i := 7) (N := some 30) #[true, true, true, true, true, true, true, true, false] rfl rfl (by kernel_rfl) (by decide) (fun K hK => ?_)
      refine goes_ Try.func58 (by kernel_rfl) rfl #[.slice (some ⟨wr.drew.heap.size, 0, none⟩) 2 2] (by rfl) rfl rfl (by (try simp only [List.map_toArray, List.map_cons, List.map_nil]); first | done | rfl | (simp only [List.length_drop, List.length_take]; rfl)) ?_
      with_reducible refine (api_Edge_58.calls wr.drew.heap.size 2 A5 (c0 - s) (l0.drop s) A0 c0 (l0.take s) _ ((blk_cell HK2.out 0).trans (by rw [List.length_drop]; simp)) ((blk_cell HK2.out 1).trans (by rw [List.length_take, Nat.min_eq_left hsl]; simp)) (Kd.C_below HCA.out HB2.out) (by rw [List.length_drop]; have := HC.out; omega) (Kd.C_below HCB.out HB2.out) (by rw [List.length_take]; have := HC.out; omega) (by rw [List.length_drop]; omega) (by rw [List.length_take]; omega)).mono ?_
      rintro e w6 ⟨v6, rfl, h6, hb6⟩
      refine ⟨_, rfl, ?_⟩
      refine hK.out _ _ trivial (fun hHeld => ?_)
      clear hK K
      refine norm_ (a' := ?_) ?_ ?_
      rotate_left
      · show Act.put _ (some 30) _ = _
        simp only [Act.put, List.setIfInBounds_toArray, List.set_cons_zero, List.set_cons_succ, i64_w, i32_w]
        rfl
      refine pure_ (i := 8) (N := some 2) (v := ?_) (a' := ?_) #[true, true, true, true, true, true, true, true, true] rfl rfl (by kernel_rfl) (fun _ _ _ h => h) (Or.inl ⟨by rfl, ?_⟩) ?_ ?_
      rotate_left
      · intro w'
        go_simp
        with_reducible rfl
      rotate_left
      · simp only [Act.put, List.setIfInBounds_toArray, List.set_cons_zero, List.set_cons_succ, i64_w, i32_w]
        rfl
      refine done_ (by kernel_rfl) ?_
      have HLS2 := HLS.out
      subst HLS2
      go_wp2_with (fail)
      go_ret
      exact ⟨_, rfl, Kd.R_lower h6 (by have := HB2.out.size; omega), below_step HB2.out hb6⟩


/-! ### slices_Index_int_int: function 60 -/
def slices_Index_int_int.l0 : Nat → List Int → Int → Int → Int → Option (Int)
  | 0, _, _, _, _ => none
  | k + 1, x0, x1, x7, x8 => if x8 < x7 then (if 0 ≤ x8 then (if x8 < (x0.length : Int) then (if x1 = (rd x0 x8) then (some x8) else (slices_Index_int_int.l0 k x0 x1 x7 (wrap64 (x8 + 1)))) else (none)) else (none)) else (some (-1))
def slices_Index_int_int.f (k : Nat) (l0 : List Int) (a1 : Int) : Option (Int) := slices_Index_int_int.l0 k l0 a1 (l0.length : Int) 0
theorem slices_Index_int_int.mono_l : ∀ k, (∀ y0 y1 y2 y3, LeO (slices_Index_int_int.l0 k y0 y1 y2 y3) (slices_Index_int_int.l0 (k + 1) y0 y1 y2 y3))
  | 0 => fun _ _ _ _ r h => by simp [slices_Index_int_int.l0] at h
  | k + 1 => by
    have ih0 := slices_Index_int_int.mono_l k
    · intro y0 y1 y2 y3
      unfold slices_Index_int_int.l0
      repeat' first
      | (with_reducible exact ih0 _ _ _ _)
      | (with_reducible exact LeO.refl _)
      | (with_reducible exact LeO.none _)
      | (with_reducible refine LeO.ite ?_ ?_)
      | (with_reducible refine LeO.bind ?_ (fun _ => ?_))
      | exact ih0 _ _ _ _
      | exact LeO.none _
      | refine LeO.ite ?_ ?_
      | refine LeO.bind ?_ (fun _ => ?_)
theorem slices_Index_int_int.mono : ∀ a0 a1 k, LeO (slices_Index_int_int.f k a0 a1) (slices_Index_int_int.f (k + 1) a0 a1) := by
  intro a0 a1 k
  have ih0 := slices_Index_int_int.mono_l k
  unfold slices_Index_int_int.f
  repeat' first
      | (with_reducible exact ih0 _ _ _ _)
      | (with_reducible exact LeO.refl _)
      | (with_reducible exact LeO.none _)
      | (with_reducible refine LeO.ite ?_ ?_)
      | (with_reducible refine LeO.bind ?_ (fun _ => ?_))
      | exact ih0 _ _ _ _
      | exact LeO.none _
      | refine LeO.ite ?_ ?_
      | refine LeO.bind ?_ (fun _ => ?_)
set_option maxHeartbeats 8000000 in
set_option maxRecDepth 100000 in
theorem slices_Index_int_int.calls (k : Nat) (A0 : Option Addr) (c0 : Nat) (l0 : List Int) (a1 : Int) (r : Int) (w : World) (hr0 : Kd.C (Kd.int .i64) w A0 l0.length l0) (hc0 : l0.length ≤ c0) (h : slices_Index_int_int.f k l0 a1 = some r) :
    Calls Try.prog 60 #[.slice A0 l0.length c0, .int .i64 a1] w fun e w' => e = .returned (.int .i64 r) ∧ Drawn0 w w' := by
  have HR0 := Aside0.mk hr0
  have HC0 := Aside0.mk hc0
  clear hr0 hc0
  have H : (slices_Index_int_int.l0 k l0 a1 (l0.length : Int) 0) = some r := h
  clear h
  have H' := Aside0.mk H
  clear H
  go_enter Try.func60, Try.ntmps60
  go_wp2
  go_loopg [8] k (fun kq v8 w' => ∃ (x8_1 : Int), v8 = .int .i64 x8_1 ∧ Aside0 (slices_Index_int_int.l0 kq l0 a1 (l0.length : Int) x8_1 = some r) ∧ Aside0 (kq ≤ k) ∧ Drawn0 w w')
  case atStart => exact ⟨(0), (by first | rfl | (simp; done) | (simp [*]; done)), H', ⟨Nat.le_refl _⟩, by repeat (first | exact Drawn0.refl _ | apply Drawn0.step)⟩
  case round =>
    clear H'
    try clear p2
    obtain ⟨x8_1, rfl, HA, HK1, ⟨m1, rfl⟩⟩ := hrel
    cases gk with
    | zero => exact absurd HA.out (by simp [slices_Index_int_int.l0])
    | succ k1 =>
      have H := HA.out
      clear HA
      simp only [slices_Index_int_int.l0] at H
      by_cases c3 : x8_1 < (l0.length : Int)
      · rw [if_pos c3] at H
        have c3b0 : decide (x8_1 < (l0.length : Int)) = true := decide_eq_true c3
        clear c3
        by_cases c4 : 0 ≤ x8_1
        · rw [if_pos c4] at H
          have c4b0 : decide (0 ≤ x8_1) = true := decide_eq_true c4
          clear c4
          by_cases c5 : x8_1 < (l0.length : Int)
          · rw [if_pos c5] at H
            have c5b0 : decide (x8_1 < (l0.length : Int)) = true := decide_eq_true c5
            clear c5
            by_cases c6 : a1 = (rd l0 x8_1)
            · rw [if_pos c6] at H
              have c6b0 : (a1 == (rd l0 x8_1)) = true := beq_iff_eq.mpr c6
              have c6b1 : (a1 != (rd l0 x8_1)) = false := bne_eq_false_iff_eq.mpr c6
              clear c6
              obtain rfl := Option.some.inj H
              have p204 : 0 ≤ (x8_1 : Int) := of_decide_eq_true (by first | (with_reducible assumption) | assumption)
              have q204 : x8_1 < (l0.length : Int) := of_decide_eq_true (by first | (with_reducible assumption) | assumption)
              obtain ⟨ad204, e204, hx204_0⟩ := Kd.at_int HR0.out x8_1 p204 q204
              cases e204
              replace p204 := eq_true p204
              replace q204 := eq_true q204
              go_wp2
              go_ret
              exact ⟨by first | rfl | (simp; done) | (simp [*]; done), by repeat (first | exact Drawn0.refl _ | apply Drawn0.step)⟩
            · rw [if_neg c6] at H
              have c6b0 : (a1 == (rd l0 x8_1)) = false := beq_eq_false_iff_ne.mpr c6
              have c6b1 : (a1 != (rd l0 x8_1)) = true := bne_iff_ne.mpr c6
              have H' := Aside0.mk H
              clear H
              have p204 : 0 ≤ (x8_1 : Int) := of_decide_eq_true (by first | (with_reducible assumption) | assumption)
              have q204 : x8_1 < (l0.length : Int) := of_decide_eq_true (by first | (with_reducible assumption) | assumption)
              obtain ⟨ad204, e204, hx204_0⟩ := Kd.at_int HR0.out x8_1 p204 q204
              cases e204
              replace p204 := eq_true p204
              replace q204 := eq_true q204
              go_wp2
              go_roundg k1
              case measure => have := HK1.out; omega
              case rel => exact ⟨(wrap64 (x8_1 + 1)), (by first | rfl | (simp; done) | (simp [*]; done)), H', ⟨by have := HK1.out; omega⟩, by repeat (first | exact Drawn0.refl _ | apply Drawn0.step)⟩
          · rw [if_neg c5] at H
            exact absurd H (by simp)
        · rw [if_neg c4] at H
          exact absurd H (by simp)
      · rw [if_neg c3] at H
        have c3b0 : decide (x8_1 < (l0.length : Int)) = false := decide_eq_false c3
        clear c3
        obtain rfl := Option.some.inj H
        go_wp2
        go_ret
        exact ⟨by first | rfl | (simp; done) | (simp [*]; done), by repeat (first | exact Drawn0.refl _ | apply Drawn0.step)⟩

/-! ### slices_Contains_int_int: function 59 -/
def slices_Contains_int_int.f (k : Nat) (l0 : List Int) (a1 : Int) : Option (Bool) := (slices_Index_int_int.f k l0 a1).bind fun t205 => (some (decide (t205 ≥ 0)))
theorem slices_Contains_int_int.mono : ∀ a0 a1 k, LeO (slices_Contains_int_int.f k a0 a1) (slices_Contains_int_int.f (k + 1) a0 a1) := by
  intro a0 a1 k
  unfold slices_Contains_int_int.f
  repeat' first
      | (with_reducible exact slices_Index_int_int.mono _ _ _)
      | (with_reducible exact LeO.refl _)
      | (with_reducible exact LeO.none _)
      | (with_reducible refine LeO.ite ?_ ?_)
      | (with_reducible refine LeO.bind ?_ (fun _ => ?_))
      | exact slices_Index_int_int.mono _ _ _
      | exact LeO.none _
      | refine LeO.ite ?_ ?_
      | refine LeO.bind ?_ (fun _ => ?_)
set_option maxHeartbeats 8000000 in
set_option maxRecDepth 100000 in
theorem slices_Contains_int_int.calls (k : Nat) (A0 : Option Addr) (c0 : Nat) (l0 : List Int) (a1 : Int) (r : Bool) (w : World) (hr0 : Kd.C (Kd.int .i64) w A0 l0.length l0) (hc0 : l0.length ≤ c0) (h : slices_Contains_int_int.f k l0 a1 = some r) :
    Calls Try.prog 59 #[.slice A0 l0.length c0, .int .i64 a1] w fun e w' => e = .returned (.bool r) ∧ Drawn0 w w' := by
  have HR0 := Aside0.mk hr0
  have HC0 := Aside0.mk hc0
  clear hr0 hc0
  have H : ((slices_Index_int_int.f k l0 a1).bind fun t205 => (some (decide (t205 ≥ 0)))) = some r := h
  clear h
  replace H := Option.bind_eq_some_iff.mp H
  obtain ⟨t205, A30, H⟩ := H
  replace H : (some (decide (t205 ≥ 0))) = some r := H
  have A3 := Aside0.mk A30
  clear A30
  obtain rfl := Option.some.inj H
  go_enter Try.func59, Try.ntmps59
  go_wp2_with (first | ((with_reducible refine gate_callee (f := 60) rfl ?_); refine goesL_ (some 7) rfl rfl Try.func60 (by kernel_rfl) rfl #[.slice A0 l0.length c0, .int .i64 a1] rfl (by (try simp only [List.map_toArray, List.map_cons, List.map_nil]); first | done | rfl | (simp only [List.length_drop, List.length_take]; rfl)) ?_; (with_reducible refine (slices_Index_int_int.calls k _ _ l0 a1 t205 _ ?side1 ?side2 A3.out).mono ?_); (case side1 => repeat (first | exact HR0.out | (with_reducible refine Kd.C_alloc ?_ _) | (with_reducible refine Kd.C_drewN ?_ _) | (with_reducible refine Kd.C_drew ?_))); (case side2 => exact HC0.out); rintro e w' ⟨rfl, ⟨nd, rfl⟩⟩; refine ⟨_, rfl, ?_⟩))
  go_ret
  exact ⟨by first | rfl | (simp; done) | (simp [*]; done), by repeat (first | exact Drawn0.refl _ | apply Drawn0.step)⟩

/-! ### api_Edge_61: function 61 -/
def api_Edge_61.f (l0 : List S48) : Option (List S48) := if l0.length < 2932031007402 then some l0 else none
theorem api_Edge_61_nil : Aside0 (∀ (a : Option Addr) (n c : Nat) (w : World), Sem.run Try.prog (binOp .eql 22 (.slice a n c) (.slice none 0 0)) w = .ok (.bool a.isNone) w) := ⟨fun a n c w => Go.run_eql_slice_nil w 22 48 a n c Try.underlying22⟩
set_option maxHeartbeats 8000000 in
set_option maxRecDepth 100000 in
theorem api_Edge_61.calls (A0 : Option Addr) (c0 : Nat) (l0 : List S48) (r : List S48) (w : World) (hr0 : Kd.C k48 w A0 l0.length l0) (hc0 : l0.length ≤ c0) (h : api_Edge_61.f l0 = some r) :
    Calls Try.prog 61 #[.slice A0 l0.length c0] w fun e w' => ∃ v0_ : Value, e = .returned (v0_) ∧ Kd.R k48 48 w' w.heap.size (fun _ => True) v0_ r ∧ Below w.heap.size w w' := by
  have HR0 := Aside0.mk hr0
  have HB := Aside0.mk (Below.refl w.heap.size w)
  unfold api_Edge_61.f at h
  by_cases hl : l0.length < 2932031007402
  · rw [if_pos hl] at h
    obtain rfl := Option.some.inj h
    have LM := Aside0.mk hl
    clear h hr0 hl
    cases A0 with
    | none =>
      have hn := api_Edge_61_nil.out none l0.length c0
      have hnil : l0 = [] := by
        rcases Nat.eq_zero_or_pos l0.length with h0 | h0
        · exact List.eq_nil_of_length_eq_zero h0
        · obtain ⟨ad, e, _⟩ := HR0.out.2.2 h0
          cases e
      have HN := Aside0.mk hnil
      clear hnil
      go_enter Try.func61, Try.ntmps61
      go_wp2
      go_ret
      exact ⟨.slice none 0 0, rfl, by rw [HN.out]; exact Kd.R_nil _ _ _ _ _, HB.out⟩
    | some ad =>
      have hn := api_Edge_61_nil.out (some ad) l0.length c0
      go_enter Try.func61, Try.ntmps61
      go_wp2_with (first
        | ((with_reducible refine gate_dst (N := 5) rfl ?_); refine Kd.R_lit k48 _ 48 ?hg (N := 5) ?hd (xs := []) (inner := []) (ok := fun _ => True) (okp := fun _ => True) ?hr ?hp (fun _ hk => hk) trivial (Below.refl _ _) (Nat.le_refl _) (by simp) ?_; (case hd => rfl); (case hg => rfl); (case hr => first | (go_simp; done) | (go_simp; rfl)); (case hp => exact (Reps.none _ _)); intro v1 w1 ho hb hg_ hnew_; clear hg_ hnew_; have HO1 := Aside0.mk ho; have HB1 := Aside0.mk hb; clear ho hb)
        | (at_builtin; refine Kd.R_append_rows k48 (w0 := w) w.heap.size rfl (.tmp 5) (.tmp 6) 22 48 (.agg #[(.int .i64 0), (.int .i64 0), (.int .i64 0), (.int .i64 0), (.int .i64 0), (.bool false)]) 48 rfl Try.underlying22 info48 rfl (by decide) (by omega) v1 [] l0 _ _ _ (fun _ => True) (fun _ => False) rfl rfl HO1.out (Kd.C_below HR0.out HB1.out) (fun _ _ h => h) (fun _ h => h.elim) (fun _ _ => trivial) HB1.out (below_size HB1.out) (by have := LM.out; simp only [List.length_nil]; omega) ?_; intro v2 w2 ho hb hg hat; clear hg hat; have HO2 := Aside0.mk ho; have HB2 := Aside0.mk hb; clear ho hb))
      go_ret
      exact ⟨v2, rfl, HO2.out, HB2.out⟩
  · rw [if_neg hl] at h
    exact absurd h (by simp)


/-! ### api_Edge_62: function 62 -/
def api_Edge_62.f (l0 : List S48) : Option (List S48) := if l0.length ≤ 100000 then some l0.reverse else none
theorem api_Edge_62_at {w : World} {base g n c : Nat} {ok : Nat → Prop} {l : List S48} (h : Kd.R k48 48 w base ok (.slice (some ⟨g, 0, none⟩) n c) l) (i : Nat) (hi : i < n) (x : S48) (hx : rd_T48 l (i : Int) = x) : w.cell? ⟨g, i * 6, none⟩ = some (.int .i64 x.f0) ∧ w.cell? ⟨g, i * 6 + 1, none⟩ = some (.int .i64 x.f1) ∧ w.cell? ⟨g, i * 6 + 2, none⟩ = some (.int .i64 x.f2) ∧ w.cell? ⟨g, i * 6 + 3, none⟩ = some (.int .i64 x.f3.f0) ∧ w.cell? ⟨g, i * 6 + 4, none⟩ = some (.int .i64 x.f3.f1) ∧ w.cell? ⟨g, i * 6 + 5, none⟩ = some (.bool x.f4) := by
  obtain ⟨cs, hl, hM, hc, _⟩ := Kd.R_elem h ⟨0, 0, 0, ⟨0, 0⟩, false⟩ (i : Int) (by omega) (by omega)
  have e := k48_openM hM
  have hx2 : l.getD ((i : Int)).toNat ⟨0, 0, 0, ⟨0, 0⟩, false⟩ = x := hx
  rw [hx2] at e
  subst e
  rw [show (k48).sz = 6 from rfl, Int.toNat_natCast] at hc
  exact ⟨hc 0 _ rfl, hc 1 _ rfl, hc 2 _ rfl, hc 3 _ rfl, hc 4 _ rfl, hc 5 _ rfl⟩
set_option maxHeartbeats 8000000 in
set_option maxRecDepth 100000 in
theorem api_Edge_62.calls (v : Value) (l0 : List S48) (r : List S48) (ok : Nat → Prop) (w0 w : World) (hB : Below w0.heap.size w0 w) (ho : Kd.R k48 48 w w0.heap.size ok v l0) (h : api_Edge_62.f l0 = some r) :
    Calls Try.prog 62 #[v] w fun e w' => e = .returned (.tuple #[]) ∧ Kd.R k48 48 w' w0.heap.size ok v r ∧ Below w0.heap.size w0 w' := by
  have hu_ := Try.underlying48
  unfold api_Edge_62.f at h
  by_cases hl : l0.length ≤ 100000
  case neg => rw [if_neg hl] at h; cases h
  rw [if_pos hl] at h
  obtain rfl := Option.some.inj h
  clear h
  obtain ⟨A0, c0, rfl⟩ := Kd.R_slice ho
  have HO := Aside0.mk (show Kd.R k48 48 w w0.heap.size ok (.slice A0 l0.length c0) (Go.Proofs.Ytacjlaiddnfpdaa.H.revS ⟨0, 0, 0, ⟨0, 0⟩, false⟩ l0 0) by rw [Go.Proofs.Ytacjlaiddnfpdaa.H.revS_zero]; exact ho)
  have HB := Aside0.mk hB
  have HFORM := Aside0.mk (fun hp : 0 < l0.length => by
    obtain ⟨g, cap, e, _⟩ := Kd.R_form ho hp
    exact (⟨g, by injection e⟩ : ∃ g, A0 = some ⟨g, 0, none⟩))
  clear ho hB
  go_enter Try.func62, Try.ntmps62
  go_wp2_with (fail)
  go_loopg [2, 3] l0.length (fun d v2 v3 wr => ∃ (i : Nat), i + d = l0.length ∧ v2 = .int .i64 i ∧ v3 = .int .i64 ((l0.length : Int) - 1 - i) ∧ Aside0 (2 * i ≤ l0.length + 1) ∧ Aside0 (Kd.R k48 48 wr w0.heap.size ok (.slice A0 l0.length c0) (Go.Proofs.Ytacjlaiddnfpdaa.H.revS ⟨0, 0, 0, ⟨0, 0⟩, false⟩ l0 i)) ∧ Aside0 (Below w0.heap.size w0 wr))
  case atStart => exact ⟨0, by omega, rfl, by first | go_num | (congr 1; omega), ⟨by omega⟩, HO, HB⟩
  case round =>
    clear HO HB
    obtain ⟨i, hi, rfl, rfl, HI, HO, HB⟩ := hrel
    by_cases hlt : 2 * i + 1 < l0.length
    · have hltz : (i : Int) < (l0.length : Int) - 1 - i := by omega
      obtain ⟨g, rfl⟩ := HFORM.out (by omega)
      obtain ⟨x, hx⟩ : ∃ x, rd_T48 (Go.Proofs.Ytacjlaiddnfpdaa.H.revS ⟨0, 0, 0, ⟨0, 0⟩, false⟩ l0 i) (i : Int) = x := ⟨_, rfl⟩
      obtain ⟨y, hy⟩ : ∃ y, rd_T48 (Go.Proofs.Ytacjlaiddnfpdaa.H.revS ⟨0, 0, 0, ⟨0, 0⟩, false⟩ l0 i) ((l0.length - 1 - i : Nat) : Int) = y := ⟨_, rfl⟩
      obtain ⟨j, hj⟩ : ∃ j, j = l0.length - 1 - i := ⟨_, rfl⟩
      have hjz : (l0.length : Int) - 1 - i = (j : Int) := by omega
      have hjl : j < l0.length := by omega
      have hjlz : (j : Int) < (l0.length : Int) := by omega
      have hilz : (i : Int) < (l0.length : Int) := by omega
      rw [← hj] at hy
      have HST := Aside0.mk (show ((Go.Proofs.Ytacjlaiddnfpdaa.H.revS ⟨0, 0, 0, ⟨0, 0⟩, false⟩ l0 i).set i y).set j x = Go.Proofs.Ytacjlaiddnfpdaa.H.revS ⟨0, 0, 0, ⟨0, 0⟩, false⟩ l0 (i + 1) by
        have h_ := Go.Proofs.Ytacjlaiddnfpdaa.H.revS_step ⟨0, 0, 0, ⟨0, 0⟩, false⟩ l0 i hlt
        rw [← hj] at h_
        rw [← hx, ← hy]
        exact h_)
      obtain ⟨h0, h1, h2, h3, h4, h5⟩ := api_Edge_62_at HO.out i (show i < l0.length by omega) x hx
      obtain ⟨g0, g1, g2, g3, g4, g5⟩ := api_Edge_62_at HO.out j (show j < l0.length from hjl) y hy
      have HJ := Aside0.mk hj
      clear hx hy hj
      rw [hjz] at hltz ⊢
      have HJZ := Aside0.mk hjz
      clear hjz
      go_wp2_with (fail)
      refine start_ (n := 16) (S := fun w' => w'.cell? ⟨g, i * 6, none⟩ = some (.int .i64 x.f0) ∧ w'.cell? ⟨g, i * 6 + 1, none⟩ = some (.int .i64 x.f1) ∧ w'.cell? ⟨g, i * 6 + 2, none⟩ = some (.int .i64 x.f2) ∧ w'.cell? ⟨g, i * 6 + 3, none⟩ = some (.int .i64 x.f3.f0) ∧ w'.cell? ⟨g, i * 6 + 4, none⟩ = some (.int .i64 x.f3.f1) ∧ w'.cell? ⟨g, i * 6 + 5, none⟩ = some (.bool x.f4) ∧ w'.cell? ⟨g, j * 6, none⟩ = some (.int .i64 y.f0) ∧ w'.cell? ⟨g, j * 6 + 1, none⟩ = some (.int .i64 y.f1) ∧ w'.cell? ⟨g, j * 6 + 2, none⟩ = some (.int .i64 y.f2) ∧ w'.cell? ⟨g, j * 6 + 3, none⟩ = some (.int .i64 y.f3.f0) ∧ w'.cell? ⟨g, j * 6 + 4, none⟩ = some (.int .i64 y.f3.f1) ∧ w'.cell? ⟨g, j * 6 + 5, none⟩ = some (.bool y.f4)) (ds := [13, 15]) #[false, false, false, false, false, false, false, false, false, false, false, false, false, false, false, false] (by kernel_rfl) rfl rfl ⟨h0, h1, h2, h3, h4, h5, g0, g1, g2, g3, g4, g5⟩ (fun hHeld => ?_)
      refine pure_ (i := 0) (N := some 14) (v := ?_) (a' := ?_) #[true, false, false, false, false, false, false, false, false, false, false, false, false, false, false, false] rfl rfl (by kernel_rfl) (fun _ _ _ h => h) (Or.inl ⟨by rfl, ?_⟩) ?_ ?_
      rotate_left
      · intro w'
        go_simp
        with_reducible rfl
      rotate_left
      · simp only [Act.put, List.setIfInBounds_toArray, List.set_cons_zero, List.set_cons_succ, i64_w, i32_w]
        rfl
      refine pure_ (i := 1) (N := some 15) (v := ?_) (a' := ?_) #[true, true, false, false, false, false, false, false, false, false, false, false, false, false, false, false] rfl rfl (by kernel_rfl) (fun _ _ _ h => h) (Or.inl ⟨by rfl, ?_⟩) ?_ ?_
      rotate_left
      · intro w'
        go_simp
        with_reducible rfl
      rotate_left
      · simp only [Act.put, List.setIfInBounds_toArray, List.set_cons_zero, List.set_cons_succ, i64_w, i32_w]
        rfl
      refine pure_ (i := 2) (N := some 16) (v := ?_) (a' := ?_) #[true, true, true, false, false, false, false, false, false, false, false, false, false, false, false, false] rfl rfl (by kernel_rfl) (fun _ _ _ h => h) (Or.inl ⟨by rfl, ?_⟩) ?_ ?_
      rotate_left
      · intro w'
        go_simp
        with_reducible rfl
      rotate_left
      · simp only [Act.put, List.setIfInBounds_toArray, List.set_cons_zero, List.set_cons_succ, i64_w, i32_w]
        rfl
      refine pure_ (i := 3) (N := some 17) (v := ?_) (a' := ?_) #[true, true, true, true, false, false, false, false, false, false, false, false, false, false, false, false] rfl rfl (by kernel_rfl) (fun _ _ _ h => h) (Or.inl ⟨by rfl, ?_⟩) ?_ ?_
      rotate_left
      · intro w'
        go_simp
        with_reducible rfl
      rotate_left
      · simp only [Act.put, List.setIfInBounds_toArray, List.set_cons_zero, List.set_cons_succ, i64_w, i32_w]
        rfl
      refine pure_ (i := 4) (N := some 18) (v := ?_) (a' := ?_) #[true, true, true, true, true, false, false, false, false, false, false, false, false, false, false, false] rfl rfl (by kernel_rfl) (fun _ _ _ h => h) (Or.inl ⟨by rfl, ?_⟩) ?_ ?_
      rotate_left
      · intro w'
        go_simp
        with_reducible rfl
      rotate_left
      · simp only [Act.put, List.setIfInBounds_toArray, List.set_cons_zero, List.set_cons_succ, i64_w, i32_w]
        rfl
      refine pure_ (i := 5) (N := some 19) (v := ?_) (a' := ?_) #[true, true, true, true, true, true, false, false, false, false, false, false, false, false, false, false] rfl rfl (by kernel_rfl) (fun _ _ _ h => h) (Or.inl ⟨by rfl, ?_⟩) ?_ ?_
      rotate_left
      · intro w'
        go_simp
        with_reducible rfl
      rotate_left
      · simp only [Act.put, List.setIfInBounds_toArray, List.set_cons_zero, List.set_cons_succ, i64_w, i32_w]
        rfl
      refine pure_ (i := 6) (N := some 20) (v := ?_) (a' := ?_) #[true, true, true, true, true, true, true, false, false, false, false, false, false, false, false, false] rfl rfl (by kernel_rfl) (fun _ _ _ h => h) (Or.inl ⟨by rfl, ?_⟩) ?_ ?_
      rotate_left
      · intro w'
        go_simp
        with_reducible rfl
      rotate_left
      · simp only [Act.put, List.setIfInBounds_toArray, List.set_cons_zero, List.set_cons_succ, i64_w, i32_w]
        rfl
      refine pure_ (i := 8) (N := some 22) (v := ?_) (a' := ?_) #[true, true, true, true, true, true, true, false, true, false, false, false, false, false, false, false] rfl rfl (by kernel_rfl) (fun _ _ _ h => h) (Or.inl ⟨by rfl, ?_⟩) ?_ ?_
      rotate_left
      · intro w'
        go_simp
        with_reducible rfl
      rotate_left
      · simp only [Act.put, List.setIfInBounds_toArray, List.set_cons_zero, List.set_cons_succ, i64_w, i32_w]
        rfl
      refine pure_ (i := 9) (N := some 23) (v := ?_) (a' := ?_) #[true, true, true, true, true, true, true, false, true, true, false, false, false, false, false, false] rfl rfl (by kernel_rfl) (fun _ _ _ h => h) (Or.inl ⟨by rfl, ?_⟩) ?_ ?_
      rotate_left
      · intro w'
        go_simp
        with_reducible rfl
      rotate_left
      · simp only [Act.put, List.setIfInBounds_toArray, List.set_cons_zero, List.set_cons_succ, i64_w, i32_w]
        rfl
      refine pure_ (i := 10) (N := some 24) (v := ?_) (a' := ?_) #[true, true, true, true, true, true, true, false, true, true, true, false, false, false, false, false] rfl rfl (by kernel_rfl) (fun _ _ _ h => h) (Or.inl ⟨by rfl, ?_⟩) ?_ ?_
      rotate_left
      · intro w'
        go_simp
        with_reducible rfl
      rotate_left
      · simp only [Act.put, List.setIfInBounds_toArray, List.set_cons_zero, List.set_cons_succ, i64_w, i32_w]
        rfl
      refine take_ (i := 7) (N := some 21) (v := ?_) (a' := ?_) #[true, true, true, true, true, true, true, true, true, true, true, false, false, false, false, false] rfl rfl (by kernel_rfl) (fun _ _ _ h => h) (Or.inl ⟨by rfl, ?_⟩) hHeld ?_ ?_
      rotate_left
      · rintro w' ⟨s0, s1, s2, s3, s4, s5, s6, s7, s8, s9, s10, s11⟩
        go_simp
        with_reducible rfl
      rotate_left
      · simp only [Act.put, List.setIfInBounds_toArray, List.set_cons_zero, List.set_cons_succ, i64_w, i32_w]
        rfl
      refine take_ (i := 11) (N := some 25) (v := ?_) (a' := ?_) #[true, true, true, true, true, true, true, true, true, true, true, true, false, false, false, false] rfl rfl (by kernel_rfl) (fun _ _ _ h => h) (Or.inl ⟨by rfl, ?_⟩) hHeld ?_ ?_
      rotate_left
      · rintro w' ⟨s0, s1, s2, s3, s4, s5, s6, s7, s8, s9, s10, s11⟩
        go_simp
        with_reducible rfl
      rotate_left
      · simp only [Act.put, List.setIfInBounds_toArray, List.set_cons_zero, List.set_cons_succ, i64_w, i32_w]
        rfl
      refine pure_ (i := 12) (N := some 26) (v := ?_) (a' := ?_) #[true, true, true, true, true, true, true, true, true, true, true, true, true, false, false, false] rfl rfl (by kernel_rfl) (fun _ _ _ h => h) (Or.inl ⟨by rfl, ?_⟩) ?_ ?_
      rotate_left
      · intro w'
        go_simp
        with_reducible rfl
      rotate_left
      · simp only [Act.put, List.setIfInBounds_toArray, List.set_cons_zero, List.set_cons_succ, i64_w, i32_w]
        rfl
      refine last_ (i := 13) (N := none) #[true, true, true, true, true, true, true, true, true, true, true, true, true, true, false, false] rfl rfl (by kernel_rfl) (by decide) (fun K hK => ?_)
      refine Go.Proofs.Ytacjlaiddnfpdaa.H.R_store_step k48 (w0 := w0) (W := wr.drew) w0.heap.size (by rfl) rfl 48 (.tmp 26) (.tmp 21) rfl 48 ((i : Nat) : Int) (Go.Proofs.Ytacjlaiddnfpdaa.H.revS ⟨0, 0, 0, ⟨0, 0⟩, false⟩ l0 i) y (.agg #[.int .i64 y.f0, .int .i64 y.f1, .int .i64 y.f2, .int .i64 y.f3.f0, .int .i64 y.f3.f1, .bool y.f4]) [.int .i64 y.f0, .int .i64 y.f1, .int .i64 y.f2, .int .i64 y.f3.f0, .int .i64 y.f3.f1, .bool y.f4] ok (by rfl) (by rfl) rfl (by kernel_rfl) (by intro q hq; simp at hq; rcases hq with rfl | rfl | rfl | rfl | rfl | rfl <;> rfl) (Kd.R_drew HO.out) (by omega) (by omega) rfl (k48_mkM _ _ _ _) (below_drew1 HB.out) (HB.out.size) ⟨0, 0, 0, ⟨0, 0⟩, false⟩ ?_
      intro w3 ho3 hb3 hg3
      have HO3 := Aside0.mk ho3
      have HB3 := Aside0.mk hb3
      clear ho3 hb3 hg3
      refine hK.out _ _ ?_
      clear hK K
      refine pure_ (i := 14) (N := some 27) (v := ?_) (a' := ?_) #[true, true, true, true, true, true, true, true, true, true, true, true, true, true, true, false] rfl rfl (by kernel_rfl) (fun _ _ _ h => h) (Or.inl ⟨by rfl, ?_⟩) ?_ ?_
      rotate_left
      · intro w'
        go_simp
        with_reducible rfl
      rotate_left
      · simp only [Act.put, List.setIfInBounds_toArray, List.set_cons_zero, List.set_cons_succ, i64_w, i32_w]
        rfl
      refine last_ (i := 15) (N := none) #[true, true, true, true, true, true, true, true, true, true, true, true, true, true, true, true] rfl rfl (by kernel_rfl) (by decide) (fun K hK => ?_)
      refine Go.Proofs.Ytacjlaiddnfpdaa.H.R_store_step k48 (w0 := w0) (W := w3) w0.heap.size (by rfl) rfl 48 (.tmp 27) (.tmp 25) rfl 48 ((j : Nat) : Int) ((Go.Proofs.Ytacjlaiddnfpdaa.H.revS ⟨0, 0, 0, ⟨0, 0⟩, false⟩ l0 i).set i y) x (.agg #[.int .i64 x.f0, .int .i64 x.f1, .int .i64 x.f2, .int .i64 x.f3.f0, .int .i64 x.f3.f1, .bool x.f4]) [.int .i64 x.f0, .int .i64 x.f1, .int .i64 x.f2, .int .i64 x.f3.f0, .int .i64 x.f3.f1, .bool x.f4] ok (by rfl) (by rfl) rfl (by kernel_rfl) (by intro q hq; simp at hq; rcases hq with rfl | rfl | rfl | rfl | rfl | rfl <;> rfl) (by have h_ := HO3.out; simp only [Int.toNat_natCast] at h_; exact h_) (by omega) (by omega) rfl (k48_mkM _ _ _ _) HB3.out (HB3.out.size) ⟨0, 0, 0, ⟨0, 0⟩, false⟩ ?_
      intro w4 ho4 hb4 hg4
      have HO4 := Aside0.mk ho4
      have HB4 := Aside0.mk hb4
      clear ho4 hb4 hg4
      refine hK.out _ _ ?_
      clear hK K
      refine done_ (by kernel_rfl) ?_
      clear h0 h1 h2 h3 h4 h5 g0 g1 g2 g3 g4 g5
      go_wp2_with (fail)
      go_roundg (gk - 1)
      case measure => omega
      case rel => exact ⟨i + 1, by omega, by go_num, by have := HJZ.out; first | go_num | (congr 1; omega), ⟨by omega⟩, ⟨by rw [← HST.out]; exact HO4.out⟩, HB4⟩
    · have hltz : ¬ (i : Int) < (l0.length : Int) - 1 - i := by omega
      have HE := Aside0.mk (Go.Proofs.Ytacjlaiddnfpdaa.H.revS_end ⟨0, 0, 0, ⟨0, 0⟩, false⟩ l0 i (by omega))
      go_wp2_with (fail)
      go_end0
      exact ⟨rfl, by rw [← HE.out]; exact HO.out, HB.out⟩


end Go.Proofs.Ytacjlaiddnfpdaa.LD
