-- WRITTEN FOR THIS CLAIM by wip/tools/mp.py, a program of this project that drives the kit's print; the functions that the print does not take are this project's own texts.
import Derived.Test.YtacjlaiddnfpdaaLDx0
import Derived.Test.YtacjlaiddnfpdaaLDx3
import Derived.Test.YtacjlaiddnfpdaaLDx5
namespace Go.Proofs.Ytacjlaiddnfpdaa.LD
open Go.RowKit Go.Proofs.YtacjlaiddnfpdaaW.PrintWords Go.Proofs.YtacjlaiddnfpdaaW.PrintLast Go.Proofs.YtacjlaiddnfpdaaW.PrintMore
attribute [local go_sem] max2_int min2_int max_two min_two max_three min_three max_four min_four   -- for this text's walks alone
set_option linter.unusedVariables false
set_option linter.unusedSimpArgs false

/-! ### loop_back: function 47 -/
def loop_back_i (by_ : List (List Int)) (j : Nat) (v : Int) : Int := rd (rd_L5 by_ (j : Int)) v
def loop_back_go (k : Nat) (by_ : List (List Int)) (es : List S48) : Nat → Int → List Int → List S48 → Option (Int × List Int × List S48)
  | 0, _, _, _ => none
  | j + 1, v, hs, way => (slices_Contains_int_int.f k hs v).bind fun b => if b = true then some (v, hs, way) else
      if (0 ≤ v ∧ v < ((rd_L5 by_ (j : Int)).length : Int)) ∧ 0 ≤ loop_back_i by_ j v ∧ loop_back_i by_ j v < (es.length : Int) then loop_back_go k by_ es j (rd_T48 es (loop_back_i by_ j v)).f0 (hs ++ [v]) (way ++ [rd_T48 es (loop_back_i by_ j v)]) else none
def loop_back.f (k : Nat) (v : Int) (by_ : List (List Int)) (es : List S48) : Option (List S48) :=
  if by_.length ≤ 100000 ∧ es.length ≤ 100000 then (loop_back_go k by_ es by_.length v [] []).bind fun r => (slices_Index_int_int.f k r.2.1 r.1).bind fun at_ => if 0 ≤ at_ ∧ at_ ≤ (r.2.2.length : Int) then (api_Edge_61.f (r.2.2.drop at_.toNat)).bind fun out => api_Edge_62.f out else none else none
theorem loop_back_go_mono (by_ : List (List Int)) (es : List S48) (k : Nat) : ∀ j v hs way, LeO (loop_back_go k by_ es j v hs way) (loop_back_go (k + 1) by_ es j v hs way)
  | 0, _, _, _ => LeO.refl _
  | j + 1, v, hs, way => LeO.bind (slices_Contains_int_int.mono _ _ _) (fun _ => LeO.ite (LeO.refl _) (LeO.ite (loop_back_go_mono by_ es k j _ _ _) (LeO.refl _)))
theorem loop_back.mono : ∀ a0 a1 a2 k, LeO (loop_back.f k a0 a1 a2) (loop_back.f (k + 1) a0 a1 a2) := by
  intro a0 a1 a2 k
  exact LeO.ite (LeO.bind (loop_back_go_mono _ _ _ _ _ _ _) (fun _ => LeO.bind (slices_Index_int_int.mono _ _ _) (fun _ => LeO.ite (LeO.refl _) (LeO.refl _)))) (LeO.refl _)
theorem loop_back_at {w W : World} {A : Option Addr} {l : List S48} (h : Kd.C k48 w A l.length l) (i : Int) (h0 : 0 ≤ i) (hi : i < (l.length : Int)) (x : S48) (hx : rd_T48 l i = x) : ∃ ad, A = some ad ∧ ∀ W, Below w.heap.size w W → W.cell? (ad.add (i.toNat * 6)) = some (.int .i64 x.f0) ∧ W.cell? ⟨(ad.add (i.toNat * 6)).block, (ad.add (i.toNat * 6)).off + 1, none⟩ = some (.int .i64 x.f1) ∧ W.cell? ⟨(ad.add (i.toNat * 6)).block, (ad.add (i.toNat * 6)).off + 2, none⟩ = some (.int .i64 x.f2) ∧ W.cell? ⟨(ad.add (i.toNat * 6)).block, (ad.add (i.toNat * 6)).off + 3, none⟩ = some (.int .i64 x.f3.f0) ∧ W.cell? ⟨(ad.add (i.toNat * 6)).block, (ad.add (i.toNat * 6)).off + 4, none⟩ = some (.int .i64 x.f3.f1) ∧ W.cell? ⟨(ad.add (i.toNat * 6)).block, (ad.add (i.toNat * 6)).off + 5, none⟩ = some (.bool x.f4) := by
  subst hx
  obtain ⟨ad, e, h0, h1, h2, h3, h4, h5⟩ := at_T48 h i h0 hi
  exact ⟨ad, e, fun W hb => ⟨(hb.cell (World.block_lt_of_cell? w _ h0)).trans h0, (hb.cell (World.block_lt_of_cell? w _ h1)).trans h1, (hb.cell (World.block_lt_of_cell? w _ h2)).trans h2, (hb.cell (World.block_lt_of_cell? w _ h3)).trans h3, (hb.cell (World.block_lt_of_cell? w _ h4)).trans h4, (hb.cell (World.block_lt_of_cell? w _ h5)).trans h5⟩⟩
theorem loop_back_at2 {w W : World} {A : Option Addr} {l : List (List Int)} (h : Kd.C (Kd.slice 3 (Kd.int .i64)) w A l.length l) (hb : Below w.heap.size w W) (i : Nat) (hi : i < l.length) (v : Int) (hv : 0 ≤ v ∧ v < ((rd_L5 l (i : Int)).length : Int)) : ∃ ad A1 c1, A = some ad ∧ W.cell? (ad.add i) = some (.slice (some A1) (rd_L5 l (i : Int)).length c1) ∧ W.cell? (A1.add v.toNat) = some (.int .i64 (loop_back_i l i v)) := by
  obtain ⟨ad, A1, c1, e, h0, h1, h2⟩ := at_L5 h (i : Int) (by omega) (by omega)
  obtain ⟨ad2, e2, h3⟩ := Kd.at_int h2 v hv.1 hv.2
  subst e2
  simp only [Int.toNat_natCast] at h0
  exact ⟨ad, ad2, c1, e, (hb.cell (World.block_lt_of_cell? w _ h0)).trans h0, (hb.cell (World.block_lt_of_cell? w _ h3)).trans h3⟩
set_option maxHeartbeats 8000000 in
set_option maxRecDepth 100000 in
theorem loop_back.calls (k : Nat) (a0 : Int) (A1 : Option Addr) (c1 : Nat) (l1 : List (List Int)) (A2 : Option Addr) (c2 : Nat) (l2 : List S48) (r : List S48) (w : World) (hr1 : Kd.C (Kd.slice 3 (Kd.int .i64)) w A1 l1.length l1) (hc1 : l1.length ≤ c1) (hr2 : Kd.C k48 w A2 l2.length l2) (hc2 : l2.length ≤ c2) (h : loop_back.f k a0 l1 l2 = some r) :
    Calls Try.prog 47 #[.int .i64 a0, .slice A1 l1.length c1, .slice A2 l2.length c2] w fun e w' => ∃ v : Value, e = .returned v ∧ Kd.R k48 48 w' w.heap.size (fun _ => True) v r ∧ Below w.heap.size w w' := by
  have hu_ := Try.underlying48
  unfold loop_back.f at h
  by_cases cl : l1.length ≤ 100000 ∧ l2.length ≤ 100000
  case neg => rw [if_neg cl] at h; cases h
  rw [if_pos cl] at h
  obtain ⟨n1, n2⟩ := cl
  obtain ⟨⟨vE, hsE, wayE⟩, hgo, h'⟩ := Option.bind_eq_some_iff.mp h
  have HGO := Aside0.mk hgo
  have HR := Aside0.mk h'
  have HR1 := Aside0.mk hr1
  have HR2 := Aside0.mk hr2
  have HC1 := Aside0.mk hc1
  have HC2 := Aside0.mk hc2
  have HB := Aside0.mk (Below.refl w.heap.size w)
  clear hr1 hr2 hc1 hc2 h h' hgo
  go_enter Try.func47, Try.ntmps47
  go_wp2_with (fail)
  refine Go.Proofs.Ytacjlaiddnfpdaa.H.wp_scope_count 0 (fun _ _ _ => False) rfl (fun _ _ _ h => h.elim) (fun _ => ?_)
  go_wp2_with (fail)
  go_step3
  simp only [Exit.then]
  apply_assumption
  go_wp2_with (fail)
  have HRN7 := Aside0.mk (Kd.R_nil (Kd.int .i64) 3 w w.heap.size (fun _ => True))
  have HRN8 := Aside0.mk (Kd.R_nil k48 48 w w.heap.size (fun _ => True))
  go_loopg [0, 7, 8, 9] l1.length (fun d v0 v7 v8 v9 wr => ∃ (v kk : Int) (hs : List Int) (way : List S48), v0 = .int .i64 v ∧ kk = (d : Int) - 1 ∧ v9 = .int .i64 kk ∧ Aside0 (hs.length + d = l1.length) ∧ Aside0 (way.length = hs.length) ∧ Aside0 (loop_back_go k l1 l2 d v hs way = some (vE, hsE, wayE)) ∧ Aside0 (Kd.R (Kd.int .i64) 3 wr w.heap.size (fun _ => True) v7 hs) ∧ Aside0 (Kd.R k48 48 wr w.heap.size (fun _ => True) v8 way) ∧ Aside0 (Below w.heap.size w wr))
  case atStart => exact ⟨a0, _, [], [], rfl, rfl, by first | rfl | go_num, ⟨by simp⟩, ⟨rfl⟩, HGO, HRN7, HRN8, HB⟩
  case round =>
    clear HRN7 HRN8 HB HGO
    obtain ⟨v, kk, hs, way, rfl, hkk, rfl, HLS, HLW, HGO, HO7, HO8, HB⟩ := hrel
    cases gk with
    | zero => exact absurd HGO.out (by simp [loop_back_go])
    | succ d =>
    obtain rfl : kk = (d : Int) := by omega
    clear hkk
    have hg := HGO.out
    unfold loop_back_go at hg
    obtain ⟨b, hb, hg2⟩ := Option.bind_eq_some_iff.mp hg
    obtain ⟨A7, c7, e⟩ := Kd.R_slice HO7.out
    subst e
    obtain ⟨A8, c8, e⟩ := Kd.R_slice HO8.out
    subst e
    have hrd7 := Kd.R_reads' HO7.out
    have HCT := Aside0.mk (slices_Contains_int_int.calls k A7 c7 hs v b wr hrd7.2.2 hrd7.2.1 hb)
    have HG2 := Aside0.mk hg2
    have hd0 : (d : Int) ≥ 0 := by omega
    clear hg hg2 hb hrd7 HGO
    cases b with
    | true =>
      obtain ⟨rfl, rfl, rfl⟩ : v = vE ∧ hs = hsE ∧ way = wayE := by simpa using HG2.out
      clear HG2
      go_wp2_with (fail)
      refine HCT.out.mono ?_
      rintro e w2 ⟨rfl, hd⟩
      have HB2 := Aside0.mk (below_step HB.out hd.below)
      have HO72 := Aside0.mk (Kd.R_below HO7.out hd.below)
      have HO82 := Aside0.mk (Kd.R_below HO8.out hd.below)
      clear hd
      obtain ⟨at_, hat, hr2⟩ := Option.bind_eq_some_iff.mp HR.out
      by_cases ca : 0 ≤ at_ ∧ at_ ≤ (way.length : Int)
      case neg => rw [if_neg ca] at hr2; cases hr2
      rw [if_pos ca] at hr2
      obtain ⟨out, hout, hr3⟩ := Option.bind_eq_some_iff.mp hr2
      obtain ⟨ca0, ca1⟩ := ca
      have hrd7 := Kd.R_reads' HO72.out
      have HIX := Aside0.mk (slices_Index_int_int.calls k A7 c7 hs v at_ w2 hrd7.2.2 hrd7.2.1 hat)
      have HOUT := Aside0.mk hout
      have HREV := Aside0.mk hr3
      clear hr2 hr3 hout hat hrd7
      obtain ⟨i0_, hi0_, _, hsz_, _⟩ := info_parts info48
      have hcutA := cut_from (P := Try.prog) 22 48 .i64 Try.underlying22 hi0_ 6 hsz_ A8 way.length c8 at_ ca0 ca1
      clear hi0_ hsz_
      go_wp2_with (fail)
      refine HIX.out.mono ?_
      rintro e w3 ⟨rfl, hd⟩
      have HB3 := Aside0.mk (below_step HB2.out hd.below)
      have HO83 := Aside0.mk (Kd.R_below HO82.out hd.below)
      clear hd
      have hrd8 := Kd.R_reads' HO83.out
      have hC := Kd.C_drop hrd8.2.2 (show at_.toNat ≤ way.length by omega) hrd8.2.1
      rw [show (k48).sz = 6 from rfl] at hC
      generalize (if c8 = at_.toNat then A8 else A8.map (·.add (at_.toNat * 6))) = A9 at hcutA hC
      have HCL := Aside0.mk (api_Edge_61.calls A9 (c8 - at_.toNat) (way.drop at_.toNat) out w3 hC (by rw [List.length_drop]; have := hrd8.2.1; omega) HOUT.out)
      rw [List.length_drop] at HCL
      have hmax : max at_ 0 = at_ := by omega
      have hmax2 : (if at_ < 0 then 0 else at_) = at_ := by rw [if_neg (by omega)]
      clear hrd8 hC
      go_wp2_with (fail)
      refine HCL.out.mono ?_
      rintro e w4 ⟨v4, rfl, h4, hb4⟩
      have HB4 := Aside0.mk (below_step HB3.out hb4)
      have HRV := Aside0.mk (api_Edge_62.calls v4 out r (fun _ => True) w w4 HB4.out (Kd.R_lower h4 HB3.out.size) HREV.out)
      obtain ⟨A4, c4, rfl⟩ := Kd.R_slice h4
      clear h4 hb4
      go_wp2_with (fail)
      refine HRV.out.mono ?_
      rintro e w5 ⟨rfl, h5, hb5⟩
      go_wp2_with (fail)
      simp only [Exit.jump]
      go_ret
      exact ⟨_, rfl, h5, hb5⟩
    | false =>
      have hg := HG2.out
      rw [if_neg Bool.false_ne_true] at hg
      by_cases ci : (0 ≤ v ∧ v < ((rd_L5 l1 (d : Int)).length : Int)) ∧ 0 ≤ loop_back_i l1 d v ∧ loop_back_i l1 d v < (l2.length : Int)
      case neg => rw [if_neg ci] at hg; cases hg
      rw [if_pos ci] at hg
      obtain ⟨⟨ci0, ci1⟩, ci2, ci3⟩ := ci
      obtain ⟨i, hi⟩ : ∃ i, i = loop_back_i l1 d v := ⟨_, rfl⟩
      obtain ⟨x, hx⟩ : ∃ x, rd_T48 l2 i = x := ⟨_, rfl⟩
      have hdl : d < l1.length := by have := HLS.out; omega
      have hdlz : (d : Int) < (l1.length : Int) := by omega
      rw [← hi, hx] at hg
      rw [← hi] at ci2 ci3
      have HGN := Aside0.mk hg
      have HI := Aside0.mk hi
      have HX := Aside0.mk hx
      have HDL := Aside0.mk hdl
      clear hg HG2 hi hx hdl
      go_wp2_with (fail)
      refine HCT.out.mono ?_
      rintro e w2 ⟨rfl, hd⟩
      have HB2 := Aside0.mk (below_step HB.out hd.below)
      have HO72 := Aside0.mk (Kd.R_below HO7.out hd.below)
      have HO82 := Aside0.mk (Kd.R_below HO8.out hd.below)
      clear hd HCT HB HO7 HO8
      obtain ⟨adb, A10, c10, e, hx0, hx1⟩ := loop_back_at2 HR1.out HB2.out d HDL.out v ⟨ci0, ci1⟩
      cases e
      rw [← HI.out] at hx1
      have hi0 : ¬ i < 0 := by omega
      obtain ⟨ad2, e, hE⟩ := loop_back_at (W := w2) HR2.out i ci2 ci3 x HX.out
      cases e
      have HE := Aside0.mk hE
      clear hE
      obtain ⟨h0, h1, h2, h3, h4, h5⟩ := HE.out w2 HB2.out
      go_wp2_with (fail)
      refine start_ (n := 13) (S := fun w' => w'.cell? (ad2.add (i.toNat * 6)) = some (.int .i64 x.f0) ∧ w'.cell? ⟨(ad2.add (i.toNat * 6)).block, (ad2.add (i.toNat * 6)).off + 1, none⟩ = some (.int .i64 x.f1) ∧ w'.cell? ⟨(ad2.add (i.toNat * 6)).block, (ad2.add (i.toNat * 6)).off + 2, none⟩ = some (.int .i64 x.f2) ∧ w'.cell? ⟨(ad2.add (i.toNat * 6)).block, (ad2.add (i.toNat * 6)).off + 3, none⟩ = some (.int .i64 x.f3.f0) ∧ w'.cell? ⟨(ad2.add (i.toNat * 6)).block, (ad2.add (i.toNat * 6)).off + 4, none⟩ = some (.int .i64 x.f3.f1) ∧ w'.cell? ⟨(ad2.add (i.toNat * 6)).block, (ad2.add (i.toNat * 6)).off + 5, none⟩ = some (.bool x.f4)) (ds := []) #[false, false, false, false, false, false, false, false, false, false, false, false, false] (by kernel_rfl) rfl rfl ⟨h0, h1, h2, h3, h4, h5⟩ (fun hHeld => ?_)
      refine pure_ (i := 0) (N := some 32) (v := ?_) (a' := ?_) #[true, false, false, false, false, false, false, false, false, false, false, false, false] rfl rfl (by kernel_rfl) (fun _ _ _ h => h) (Or.inl ⟨by rfl, ?_⟩) ?_ ?_
      rotate_left
      · intro w'
        go_simp
        with_reducible rfl
      rotate_left
      · simp only [Act.put, List.setIfInBounds_toArray, List.set_cons_zero, List.set_cons_succ, i64_w, i32_w]
        rfl
      refine pure_ (i := 1) (N := some 33) (v := ?_) (a' := ?_) #[true, true, false, false, false, false, false, false, false, false, false, false, false] rfl rfl (by kernel_rfl) (fun _ _ _ h => h) (Or.inl ⟨by rfl, ?_⟩) ?_ ?_
      rotate_left
      · intro w'
        go_simp
        with_reducible rfl
      rotate_left
      · simp only [Act.put, List.setIfInBounds_toArray, List.set_cons_zero, List.set_cons_succ, i64_w, i32_w]
        rfl
      refine pure_ (i := 4) (N := some 36) (v := ?_) (a' := ?_) #[true, true, false, false, true, false, false, false, false, false, false, false, false] rfl rfl (by kernel_rfl) (fun _ _ _ h => h) (Or.inl ⟨by rfl, ?_⟩) ?_ ?_
      rotate_left
      · intro w'
        go_simp
        with_reducible rfl
      rotate_left
      · simp only [Act.put, List.setIfInBounds_toArray, List.set_cons_zero, List.set_cons_succ, i64_w, i32_w]
        rfl
      refine pure_ (i := 5) (N := some 37) (v := ?_) (a' := ?_) #[true, true, false, false, true, true, false, false, false, false, false, false, false] rfl rfl (by kernel_rfl) (fun _ _ _ h => h) (Or.inl ⟨by rfl, ?_⟩) ?_ ?_
      rotate_left
      · intro w'
        go_simp
        with_reducible rfl
      rotate_left
      · simp only [Act.put, List.setIfInBounds_toArray, List.set_cons_zero, List.set_cons_succ, i64_w, i32_w]
        rfl
      refine pure_ (i := 6) (N := some 38) (v := ?_) (a' := ?_) #[true, true, false, false, true, true, true, false, false, false, false, false, false] rfl rfl (by kernel_rfl) (fun _ _ _ h => h) (Or.inl ⟨by rfl, ?_⟩) ?_ ?_
      rotate_left
      · intro w'
        go_simp
        with_reducible rfl
      rotate_left
      · simp only [Act.put, List.setIfInBounds_toArray, List.set_cons_zero, List.set_cons_succ, i64_w, i32_w]
        rfl
      refine pure_ (i := 7) (N := some 39) (v := ?_) (a' := ?_) #[true, true, false, false, true, true, true, true, false, false, false, false, false] rfl rfl (by kernel_rfl) (fun _ _ _ h => h) (Or.inl ⟨by rfl, ?_⟩) ?_ ?_
      rotate_left
      · intro w'
        go_simp
        with_reducible rfl
      rotate_left
      · simp only [Act.put, List.setIfInBounds_toArray, List.set_cons_zero, List.set_cons_succ, i64_w, i32_w]
        rfl
      refine take_ (i := 8) (N := some 40) (v := ?_) (a' := ?_) #[true, true, false, false, true, true, true, true, true, false, false, false, false] rfl rfl (by kernel_rfl) (fun _ _ _ h => h) (Or.inl ⟨by rfl, ?_⟩) hHeld ?_ ?_
      rotate_left
      · rintro w' ⟨s0, s1, s2, s3, s4, s5⟩
        go_simp
        with_reducible rfl
      rotate_left
      · simp only [Act.put, List.setIfInBounds_toArray, List.set_cons_zero, List.set_cons_succ, i64_w, i32_w]
        rfl
      refine join_ (σ := Nat × Value × Nat) 3 #[true, true, true, true, true, true, true, true, true, true, false, false, false] (fun s => [(34, .slice (some ⟨s.1, 0, none⟩) 1 1), (35, s.2.1), (41, .slice (some ⟨s.2.2, 0, none⟩) 1 1)]) (fun s w' => Kd.R (Kd.int .i64) 3 w' w.heap.size (fun _ => True) s.2.1 (hs ++ [v]) ∧ Kd.R k48 48 w' w.heap.size (fun _ => True) (.slice A8 way.length c8) way ∧ w'.heap[s.2.2]? = some (.cells #[.int .i64 x.f0, .int .i64 x.f1, .int .i64 x.f2, .int .i64 x.f3.f0, .int .i64 x.f3.f1, .bool x.f4] 48 (0, 0)) ∧ Below w.heap.size w w') ?_ ?_
      rotate_left
      · intro hCont
        refine two_ (i := 2) (j := 9) (Ni := some 34) (Nj := some 41) #[true, true, true, false, true, true, true, true, true, false, false, false, false] #[true, true, false, false, true, true, true, true, true, true, false, false, false] rfl rfl rfl rfl (by kernel_rfl) (by decide) (by decide) (fun K hK => ?_) (fun K hK => ?_)
        · skip
          refine event_step (w1 := w2.drew.alloc (.cells #[.int .i64 v] 3 (0, 0))) (v := .slice (some ⟨w2.drew.heap.size, 0, none⟩) 1 1) ?hw ?hr ?_; (case hw => rfl); (case hr => first | (go_simp; done) | (go_simp; rfl))
          have HBq2 := Aside0.mk (below_alloc (below_drew1 HB2.out) (.cells #[.int .i64 v] 3 (0, 0)))
          have HO7q2 := Aside0.mk (Kd.R_alloc (Kd.R_drew HO72.out) (.cells #[.int .i64 v] 3 (0, 0)))
          have HO8q2 := Aside0.mk (Kd.R_alloc (Kd.R_drew HO82.out) (.cells #[.int .i64 v] 3 (0, 0)))
          have HNq2 := Aside0.mk (Kd.R_ne_new (Kd.R_drew HO72.out) 0)
          have HK2q2 := Aside0.mk (blk_new w2.drew (.cells #[.int .i64 v] 3 (0, 0)))
          refine hK.out _ _ ⟨(HE.out _ HBq2.out).1, (HE.out _ HBq2.out).2.1, (HE.out _ HBq2.out).2.2.1, (HE.out _ HBq2.out).2.2.2.1, (HE.out _ HBq2.out).2.2.2.2.1, (HE.out _ HBq2.out).2.2.2.2.2⟩ (fun hHeld => ?_)
          clear hK K
          refine norm_ (a' := ?_) ?_ ?_
          rotate_left
          · show Act.put _ (some 34) _ = _
            simp only [Act.put, List.setIfInBounds_toArray, List.set_cons_zero, List.set_cons_succ, i64_w, i32_w]
            rfl
          refine two_ (i := 3) (j := 9) (Ni := some 35) (Nj := some 41) #[true, true, true, true, true, true, true, true, true, false, false, false, false] #[true, true, true, false, true, true, true, true, true, true, false, false, false] rfl rfl rfl rfl (by kernel_rfl) (by decide) (by decide) (fun K hK => ?_) (fun K hK => ?_)
          · skip
            refine Kd.R_append_rows_step (Kd.int .i64) (w0 := w) (W := (w2.drew.alloc (.cells #[.int .i64 v] 3 (0, 0)))) w.heap.size ?hw (.tmp 32) (.tmp 34) 37 3 (.int .i64 0) 8 rfl Try.underlying37 info3 rfl (by decide) (by omega) _ hs [v] (some ⟨w2.drew.heap.size, 0, none⟩) 1 1 (fun _ => True) (fun _ => False) rfl rfl HO7q2.out (Go.Proofs.Ytacjlaiddnfpdaa.H.C_blk1 (Kd.int .i64) (cs := [.int .i64 v]) rfl rfl HK2q2.out) (fun _ _ h => h) (fun _ h => h.elim) (fun _ _ => trivial) HBq2.out (below_size HBq2.out) (by have := HLS.out; omega) ?_; (case hw => rfl)
            intro v35 w3 ho hb hg hat
            have HBq23 := Aside0.mk hb
            have HO7q23 := Aside0.mk ho
            have HO8q23 := Aside0.mk (Kd.R_over' HO8q2.out (Kd.R_typed HO7q2.out) (by decide) hg)
            clear ho hb hg hat
            refine hK.out _ _ ⟨(HE.out _ HBq23.out).1, (HE.out _ HBq23.out).2.1, (HE.out _ HBq23.out).2.2.1, (HE.out _ HBq23.out).2.2.2.1, (HE.out _ HBq23.out).2.2.2.2.1, (HE.out _ HBq23.out).2.2.2.2.2⟩ (fun hHeld => ?_)
            clear hK K
            refine norm_ (a' := ?_) ?_ ?_
            rotate_left
            · show Act.put _ (some 35) _ = _
              simp only [Act.put, List.setIfInBounds_toArray, List.set_cons_zero, List.set_cons_succ, i64_w, i32_w]
              rfl
            refine one_ (i := 9) (N := some 41) #[true, true, true, true, true, true, true, true, true, true, false, false, false] rfl rfl (by kernel_rfl) (by decide) (fun K hK => ?_)
            refine event_step (w1 := w3.alloc (.cells #[.int .i64 x.f0, .int .i64 x.f1, .int .i64 x.f2, .int .i64 x.f3.f0, .int .i64 x.f3.f1, .bool x.f4] 48 (0, 0))) (v := .slice (some ⟨w3.heap.size, 0, none⟩) 1 1) ?hw ?hr ?_; (case hw => rfl); (case hr => first | (go_simp; done) | (go_simp; rfl))
            have HBq239 := Aside0.mk (below_alloc HBq23.out (.cells #[.int .i64 x.f0, .int .i64 x.f1, .int .i64 x.f2, .int .i64 x.f3.f0, .int .i64 x.f3.f1, .bool x.f4] 48 (0, 0)))
            have HO7q239 := Aside0.mk (Kd.R_alloc HO7q23.out (.cells #[.int .i64 x.f0, .int .i64 x.f1, .int .i64 x.f2, .int .i64 x.f3.f0, .int .i64 x.f3.f1, .bool x.f4] 48 (0, 0)))
            have HO8q239 := Aside0.mk (Kd.R_alloc HO8q23.out (.cells #[.int .i64 x.f0, .int .i64 x.f1, .int .i64 x.f2, .int .i64 x.f3.f0, .int .i64 x.f3.f1, .bool x.f4] 48 (0, 0)))
            have HNq239 := Aside0.mk (Kd.R_ne_new HO7q23.out 0)
            have HK9q239 := Aside0.mk (blk_new w3 (.cells #[.int .i64 x.f0, .int .i64 x.f1, .int .i64 x.f2, .int .i64 x.f3.f0, .int .i64 x.f3.f1, .bool x.f4] 48 (0, 0)))
            refine hK.out _ _ ⟨(HE.out _ HBq239.out).1, (HE.out _ HBq239.out).2.1, (HE.out _ HBq239.out).2.2.1, (HE.out _ HBq239.out).2.2.2.1, (HE.out _ HBq239.out).2.2.2.2.1, (HE.out _ HBq239.out).2.2.2.2.2⟩ (fun hHeld => ?_)
            clear hK K
            refine norm_ (a' := ?_) ?_ ?_
            rotate_left
            · show Act.put _ (some 41) _ = _
              simp only [Act.put, List.setIfInBounds_toArray, List.set_cons_zero, List.set_cons_succ, i64_w, i32_w]
              rfl
            exact norm_ (by simp only [putAll, Act.put, List.setIfInBounds_toArray, List.set_cons_zero, List.set_cons_succ]) (hCont (w2.drew.heap.size, v35, w3.heap.size) _ ⟨HO7q239.out, HO8q239.out, HK9q239.out, HBq239.out⟩)
          · skip
            refine event_step (w1 := (w2.drew.alloc (.cells #[.int .i64 v] 3 (0, 0))).alloc (.cells #[.int .i64 x.f0, .int .i64 x.f1, .int .i64 x.f2, .int .i64 x.f3.f0, .int .i64 x.f3.f1, .bool x.f4] 48 (0, 0))) (v := .slice (some ⟨(w2.drew.alloc (.cells #[.int .i64 v] 3 (0, 0))).heap.size, 0, none⟩) 1 1) ?hw ?hr ?_; (case hw => rfl); (case hr => first | (go_simp; done) | (go_simp; rfl))
            have HBq29 := Aside0.mk (below_alloc HBq2.out (.cells #[.int .i64 x.f0, .int .i64 x.f1, .int .i64 x.f2, .int .i64 x.f3.f0, .int .i64 x.f3.f1, .bool x.f4] 48 (0, 0)))
            have HO7q29 := Aside0.mk (Kd.R_alloc HO7q2.out (.cells #[.int .i64 x.f0, .int .i64 x.f1, .int .i64 x.f2, .int .i64 x.f3.f0, .int .i64 x.f3.f1, .bool x.f4] 48 (0, 0)))
            have HO8q29 := Aside0.mk (Kd.R_alloc HO8q2.out (.cells #[.int .i64 x.f0, .int .i64 x.f1, .int .i64 x.f2, .int .i64 x.f3.f0, .int .i64 x.f3.f1, .bool x.f4] 48 (0, 0)))
            have HNq29 := Aside0.mk (Kd.R_ne_new HO7q2.out 0)
            have HK9q29 := Aside0.mk (blk_new (w2.drew.alloc (.cells #[.int .i64 v] 3 (0, 0))) (.cells #[.int .i64 x.f0, .int .i64 x.f1, .int .i64 x.f2, .int .i64 x.f3.f0, .int .i64 x.f3.f1, .bool x.f4] 48 (0, 0)))
            have HK2q29 := Aside0.mk (blk_alloc HK2q2.out (.cells #[.int .i64 x.f0, .int .i64 x.f1, .int .i64 x.f2, .int .i64 x.f3.f0, .int .i64 x.f3.f1, .bool x.f4] 48 (0, 0)))
            refine hK.out _ _ ⟨(HE.out _ HBq29.out).1, (HE.out _ HBq29.out).2.1, (HE.out _ HBq29.out).2.2.1, (HE.out _ HBq29.out).2.2.2.1, (HE.out _ HBq29.out).2.2.2.2.1, (HE.out _ HBq29.out).2.2.2.2.2⟩ (fun hHeld => ?_)
            clear hK K
            refine norm_ (a' := ?_) ?_ ?_
            rotate_left
            · show Act.put _ (some 41) _ = _
              simp only [Act.put, List.setIfInBounds_toArray, List.set_cons_zero, List.set_cons_succ, i64_w, i32_w]
              rfl
            refine one_ (i := 3) (N := some 35) #[true, true, true, true, true, true, true, true, true, true, false, false, false] rfl rfl (by kernel_rfl) (by decide) (fun K hK => ?_)
            refine Kd.R_append_rows_step (Kd.int .i64) (w0 := w) (W := ((w2.drew.alloc (.cells #[.int .i64 v] 3 (0, 0))).alloc (.cells #[.int .i64 x.f0, .int .i64 x.f1, .int .i64 x.f2, .int .i64 x.f3.f0, .int .i64 x.f3.f1, .bool x.f4] 48 (0, 0)))) w.heap.size ?hw (.tmp 32) (.tmp 34) 37 3 (.int .i64 0) 8 rfl Try.underlying37 info3 rfl (by decide) (by omega) _ hs [v] (some ⟨w2.drew.heap.size, 0, none⟩) 1 1 (fun _ => True) (fun _ => False) rfl rfl HO7q29.out (Go.Proofs.Ytacjlaiddnfpdaa.H.C_blk1 (Kd.int .i64) (cs := [.int .i64 v]) rfl rfl HK2q29.out) (fun _ _ h => h) (fun _ h => h.elim) (fun _ _ => trivial) HBq29.out (below_size HBq29.out) (by have := HLS.out; omega) ?_; (case hw => rfl)
            intro v35 w3 ho hb hg hat
            have HBq293 := Aside0.mk hb
            have HO7q293 := Aside0.mk ho
            have HO8q293 := Aside0.mk (Kd.R_over' HO8q29.out (Kd.R_typed HO7q29.out) (by decide) hg)
            have HK9q293 := Aside0.mk (blk_grown HK9q29.out hg (fun he => by exact absurd (Kd.R_lt HO7q2.out _ he.symm) (Nat.lt_irrefl _)))
            clear ho hb hg hat
            refine hK.out _ _ ⟨(HE.out _ HBq293.out).1, (HE.out _ HBq293.out).2.1, (HE.out _ HBq293.out).2.2.1, (HE.out _ HBq293.out).2.2.2.1, (HE.out _ HBq293.out).2.2.2.2.1, (HE.out _ HBq293.out).2.2.2.2.2⟩ (fun hHeld => ?_)
            clear hK K
            refine norm_ (a' := ?_) ?_ ?_
            rotate_left
            · show Act.put _ (some 35) _ = _
              simp only [Act.put, List.setIfInBounds_toArray, List.set_cons_zero, List.set_cons_succ, i64_w, i32_w]
              rfl
            exact norm_ (by simp only [putAll, Act.put, List.setIfInBounds_toArray, List.set_cons_zero, List.set_cons_succ]) (hCont (w2.drew.heap.size, v35, (w2.drew.alloc (.cells #[.int .i64 v] 3 (0, 0))).heap.size) _ ⟨HO7q293.out, HO8q293.out, HK9q293.out, HBq293.out⟩)
        · skip
          refine event_step (w1 := w2.drew.alloc (.cells #[.int .i64 x.f0, .int .i64 x.f1, .int .i64 x.f2, .int .i64 x.f3.f0, .int .i64 x.f3.f1, .bool x.f4] 48 (0, 0))) (v := .slice (some ⟨w2.drew.heap.size, 0, none⟩) 1 1) ?hw ?hr ?_; (case hw => rfl); (case hr => first | (go_simp; done) | (go_simp; rfl))
          have HBq9 := Aside0.mk (below_alloc (below_drew1 HB2.out) (.cells #[.int .i64 x.f0, .int .i64 x.f1, .int .i64 x.f2, .int .i64 x.f3.f0, .int .i64 x.f3.f1, .bool x.f4] 48 (0, 0)))
          have HO7q9 := Aside0.mk (Kd.R_alloc (Kd.R_drew HO72.out) (.cells #[.int .i64 x.f0, .int .i64 x.f1, .int .i64 x.f2, .int .i64 x.f3.f0, .int .i64 x.f3.f1, .bool x.f4] 48 (0, 0)))
          have HO8q9 := Aside0.mk (Kd.R_alloc (Kd.R_drew HO82.out) (.cells #[.int .i64 x.f0, .int .i64 x.f1, .int .i64 x.f2, .int .i64 x.f3.f0, .int .i64 x.f3.f1, .bool x.f4] 48 (0, 0)))
          have HNq9 := Aside0.mk (Kd.R_ne_new (Kd.R_drew HO72.out) 0)
          have HK9q9 := Aside0.mk (blk_new w2.drew (.cells #[.int .i64 x.f0, .int .i64 x.f1, .int .i64 x.f2, .int .i64 x.f3.f0, .int .i64 x.f3.f1, .bool x.f4] 48 (0, 0)))
          refine hK.out _ _ ⟨(HE.out _ HBq9.out).1, (HE.out _ HBq9.out).2.1, (HE.out _ HBq9.out).2.2.1, (HE.out _ HBq9.out).2.2.2.1, (HE.out _ HBq9.out).2.2.2.2.1, (HE.out _ HBq9.out).2.2.2.2.2⟩ (fun hHeld => ?_)
          clear hK K
          refine norm_ (a' := ?_) ?_ ?_
          rotate_left
          · show Act.put _ (some 41) _ = _
            simp only [Act.put, List.setIfInBounds_toArray, List.set_cons_zero, List.set_cons_succ, i64_w, i32_w]
            rfl
          refine one_ (i := 2) (N := some 34) #[true, true, true, false, true, true, true, true, true, true, false, false, false] rfl rfl (by kernel_rfl) (by decide) (fun K hK => ?_)
          refine event_step (w1 := (w2.drew.alloc (.cells #[.int .i64 x.f0, .int .i64 x.f1, .int .i64 x.f2, .int .i64 x.f3.f0, .int .i64 x.f3.f1, .bool x.f4] 48 (0, 0))).alloc (.cells #[.int .i64 v] 3 (0, 0))) (v := .slice (some ⟨(w2.drew.alloc (.cells #[.int .i64 x.f0, .int .i64 x.f1, .int .i64 x.f2, .int .i64 x.f3.f0, .int .i64 x.f3.f1, .bool x.f4] 48 (0, 0))).heap.size, 0, none⟩) 1 1) ?hw ?hr ?_; (case hw => rfl); (case hr => first | (go_simp; done) | (go_simp; rfl))
          have HBq92 := Aside0.mk (below_alloc HBq9.out (.cells #[.int .i64 v] 3 (0, 0)))
          have HO7q92 := Aside0.mk (Kd.R_alloc HO7q9.out (.cells #[.int .i64 v] 3 (0, 0)))
          have HO8q92 := Aside0.mk (Kd.R_alloc HO8q9.out (.cells #[.int .i64 v] 3 (0, 0)))
          have HNq92 := Aside0.mk (Kd.R_ne_new HO7q9.out 0)
          have HK2q92 := Aside0.mk (blk_new (w2.drew.alloc (.cells #[.int .i64 x.f0, .int .i64 x.f1, .int .i64 x.f2, .int .i64 x.f3.f0, .int .i64 x.f3.f1, .bool x.f4] 48 (0, 0))) (.cells #[.int .i64 v] 3 (0, 0)))
          have HK9q92 := Aside0.mk (blk_alloc HK9q9.out (.cells #[.int .i64 v] 3 (0, 0)))
          refine hK.out _ _ ⟨(HE.out _ HBq92.out).1, (HE.out _ HBq92.out).2.1, (HE.out _ HBq92.out).2.2.1, (HE.out _ HBq92.out).2.2.2.1, (HE.out _ HBq92.out).2.2.2.2.1, (HE.out _ HBq92.out).2.2.2.2.2⟩ (fun hHeld => ?_)
          clear hK K
          refine norm_ (a' := ?_) ?_ ?_
          rotate_left
          · show Act.put _ (some 34) _ = _
            simp only [Act.put, List.setIfInBounds_toArray, List.set_cons_zero, List.set_cons_succ, i64_w, i32_w]
            rfl
          refine one_ (i := 3) (N := some 35) #[true, true, true, true, true, true, true, true, true, true, false, false, false] rfl rfl (by kernel_rfl) (by decide) (fun K hK => ?_)
          refine Kd.R_append_rows_step (Kd.int .i64) (w0 := w) (W := ((w2.drew.alloc (.cells #[.int .i64 x.f0, .int .i64 x.f1, .int .i64 x.f2, .int .i64 x.f3.f0, .int .i64 x.f3.f1, .bool x.f4] 48 (0, 0))).alloc (.cells #[.int .i64 v] 3 (0, 0)))) w.heap.size ?hw (.tmp 32) (.tmp 34) 37 3 (.int .i64 0) 8 rfl Try.underlying37 info3 rfl (by decide) (by omega) _ hs [v] (some ⟨(w2.drew.alloc (.cells #[.int .i64 x.f0, .int .i64 x.f1, .int .i64 x.f2, .int .i64 x.f3.f0, .int .i64 x.f3.f1, .bool x.f4] 48 (0, 0))).heap.size, 0, none⟩) 1 1 (fun _ => True) (fun _ => False) rfl rfl HO7q92.out (Go.Proofs.Ytacjlaiddnfpdaa.H.C_blk1 (Kd.int .i64) (cs := [.int .i64 v]) rfl rfl HK2q92.out) (fun _ _ h => h) (fun _ h => h.elim) (fun _ _ => trivial) HBq92.out (below_size HBq92.out) (by have := HLS.out; omega) ?_; (case hw => rfl)
          intro v35 w3 ho hb hg hat
          have HBq923 := Aside0.mk hb
          have HO7q923 := Aside0.mk ho
          have HO8q923 := Aside0.mk (Kd.R_over' HO8q92.out (Kd.R_typed HO7q92.out) (by decide) hg)
          have HK9q923 := Aside0.mk (blk_grown HK9q92.out hg (fun he => by exact absurd (Kd.R_lt (Kd.R_drew HO72.out) _ he.symm) (Nat.lt_irrefl _)))
          clear ho hb hg hat
          refine hK.out _ _ ⟨(HE.out _ HBq923.out).1, (HE.out _ HBq923.out).2.1, (HE.out _ HBq923.out).2.2.1, (HE.out _ HBq923.out).2.2.2.1, (HE.out _ HBq923.out).2.2.2.2.1, (HE.out _ HBq923.out).2.2.2.2.2⟩ (fun hHeld => ?_)
          clear hK K
          refine norm_ (a' := ?_) ?_ ?_
          rotate_left
          · show Act.put _ (some 35) _ = _
            simp only [Act.put, List.setIfInBounds_toArray, List.set_cons_zero, List.set_cons_succ, i64_w, i32_w]
            rfl
          exact norm_ (by simp only [putAll, Act.put, List.setIfInBounds_toArray, List.set_cons_zero, List.set_cons_succ]) (hCont ((w2.drew.alloc (.cells #[.int .i64 x.f0, .int .i64 x.f1, .int .i64 x.f2, .int .i64 x.f3.f0, .int .i64 x.f3.f1, .bool x.f4] 48 (0, 0))).heap.size, v35, w2.drew.heap.size) _ ⟨HO7q923.out, HO8q923.out, HK9q923.out, HBq923.out⟩)
      rintro ⟨g34, v35, g41⟩ w6 ⟨hA_, hB_, hC_, hD_⟩
      have HO76 := Aside0.mk hA_
      have HO86 := Aside0.mk hB_
      have HK96 := Aside0.mk hC_
      have HB6 := Aside0.mk hD_
      clear hA_ hB_ hC_ hD_
      refine norm_ (a' := ?_) ?_ ?_
      rotate_left
      · simp only [putAll, Act.put, List.setIfInBounds_toArray, List.set_cons_zero, List.set_cons_succ]
        rfl
      refine one_ (i := 10) (N := some 42) #[true, true, true, true, true, true, true, true, true, true, true, false, false] rfl rfl (by kernel_rfl) (by decide) (fun K hK => ?_)
      refine Kd.R_append_rows_step k48 (w0 := w) (W := w6) w.heap.size ?hw (.tmp 36) (.tmp 41) 22 48 (.agg #[.int .i64 0, .int .i64 0, .int .i64 0, .int .i64 0, .int .i64 0, .bool false]) 48 rfl Try.underlying22 info48 rfl (by decide) (by omega) _ way [x] (some ⟨g41, 0, none⟩) 1 1 (fun _ => True) (fun _ => False) rfl rfl HO86.out (Go.Proofs.Ytacjlaiddnfpdaa.H.C_blk1 k48 (cs := [.int .i64 x.f0, .int .i64 x.f1, .int .i64 x.f2, .int .i64 x.f3.f0, .int .i64 x.f3.f1, .bool x.f4]) rfl (k48_mk _ _) HK96.out) (fun _ _ h => h) (fun _ h => h.elim) (fun _ _ => trivial) HB6.out (below_size HB6.out) (by have := HLS.out; have := HLW.out; omega) ?_; (case hw => rfl)
      intro v42 w9 ho hb hg hat
      have HB9 := Aside0.mk hb
      have HO89 := Aside0.mk ho
      have HO79 := Aside0.mk (Kd.R_over' HO76.out (Kd.R_typed HO86.out) (by decide) hg)
      clear ho hb hg hat
      refine hK.out _ _ ⟨(HE.out _ HB9.out).1, (HE.out _ HB9.out).2.1, (HE.out _ HB9.out).2.2.1, (HE.out _ HB9.out).2.2.2.1, (HE.out _ HB9.out).2.2.2.2.1, (HE.out _ HB9.out).2.2.2.2.2⟩ (fun hHeld => ?_)
      clear hK K
      refine norm_ (a' := ?_) ?_ ?_
      rotate_left
      · show Act.put _ (some 42) _ = _
        simp only [Act.put, List.setIfInBounds_toArray, List.set_cons_zero, List.set_cons_succ, i64_w, i32_w]
        rfl
      refine pure_ (i := 11) (N := some 7) (v := ?_) (a' := ?_) #[true, true, true, true, true, true, true, true, true, true, true, true, false] rfl rfl (by kernel_rfl) (fun _ _ _ h => h) (Or.inl ⟨by rfl, ?_⟩) ?_ ?_
      rotate_left
      · intro w'
        go_simp
        with_reducible rfl
      rotate_left
      · simp only [Act.put, List.setIfInBounds_toArray, List.set_cons_zero, List.set_cons_succ, i64_w, i32_w]
        rfl
      refine pure_ (i := 12) (N := some 8) (v := ?_) (a' := ?_) #[true, true, true, true, true, true, true, true, true, true, true, true, true] rfl rfl (by kernel_rfl) (fun _ _ _ h => h) (Or.inl ⟨by rfl, ?_⟩) ?_ ?_
      rotate_left
      · intro w'
        go_simp
        with_reducible rfl
      rotate_left
      · simp only [Act.put, List.setIfInBounds_toArray, List.set_cons_zero, List.set_cons_succ, i64_w, i32_w]
        rfl
      refine done_ (by kernel_rfl) ?_
      clear h0 h1 h2 h3 h4 h5 hx0 hx1
      obtain ⟨h0, h1, h2, h3, h4, h5⟩ := HE.out _ HB9.out
      clear h1 h2 h3 h4 h5
      go_wp2_with (fail)
      go_roundg d
      case measure => omega
      case rel => exact ⟨x.f0, (d : Int) - 1, hs ++ [v], way ++ [x], rfl, rfl, by first | rfl | go_num, ⟨by rw [List.length_append, List.length_singleton]; have := HLS.out; omega⟩, ⟨by rw [List.length_append, List.length_append, HLW.out]; rfl⟩, HGN, HO79, HO89, HB9⟩


/-! ### loop_Of: function 32 -/
def loop_Of.l0 : Nat → Int → List (S48) → List (List Int) → List (List Int) → Int → Int → Option ((List (S48)))
  | 0, _, _, _, _, _, _ => none
  | k + 1, x0, x1, x5, x6, x17, x18 => if x18 < x17 then (if 0 ≤ x0 then (if x0 < (x5.length : Int) then (if 0 ≤ x18 then (if x18 < ((rd_L4 x5 x0).length : Int) then (if 0 ≤ (wrap64 (x0 - 1)) then (if (wrap64 (x0 - 1)) < (x5.length : Int) then (if x18 < ((rd_L4 x5 (wrap64 (x0 - 1))).length : Int) then (if (rd (rd_L4 x5 x0) x18) < (rd (rd_L4 x5 (wrap64 (x0 - 1))) x18) then ((loop_back.f k x18 x6 x1).bind fun t216 => ((loop_turned.f t216).bind fun t219 => (some t219))) else (loop_Of.l0 k x0 x1 x5 x6 x17 (wrap64 (x18 + 1)))) else (none)) else (none)) else (none)) else (none)) else (none)) else (none)) else (none)) else (some ([] : List (S48)))
def loop_Of.f (k : Nat) (a0 : Int) (l1 : List (S48)) : Option ((List (S48))) := (relax_Layers.f k a0 l1).bind fun bt206 => (if (bt206.1.length : Int) < 2 then (some ([] : List (S48))) else (loop_Of.l0 k a0 l1 bt206.1 bt206.2 a0 0))
theorem loop_Of.mono_l : ∀ k, (∀ y0 y1 y2 y3 y4 y5, LeO (loop_Of.l0 k y0 y1 y2 y3 y4 y5) (loop_Of.l0 (k + 1) y0 y1 y2 y3 y4 y5))
  | 0 => fun _ _ _ _ _ _ r h => by simp [loop_Of.l0] at h
  | k + 1 => by
    have ih0 := loop_Of.mono_l k
    · intro y0 y1 y2 y3 y4 y5
      unfold loop_Of.l0
      repeat' first
      | (with_reducible exact ih0 _ _ _ _ _ _)
      | (with_reducible exact loop_back.mono _ _ _ _)
      | (with_reducible exact relax_Layers.mono _ _ _)
      | (with_reducible exact LeO.refl _)
      | (with_reducible exact LeO.none _)
      | (with_reducible refine LeO.ite ?_ ?_)
      | (with_reducible refine LeO.bind ?_ (fun _ => ?_))
      | exact ih0 _ _ _ _ _ _
      | exact loop_back.mono _ _ _ _
      | exact relax_Layers.mono _ _ _
      | exact LeO.none _
      | refine LeO.ite ?_ ?_
      | refine LeO.bind ?_ (fun _ => ?_)
theorem loop_Of.mono : ∀ a0 a1 k, LeO (loop_Of.f k a0 a1) (loop_Of.f (k + 1) a0 a1) := by
  intro a0 a1 k
  have ih0 := loop_Of.mono_l k
  unfold loop_Of.f
  repeat' first
      | (with_reducible exact ih0 _ _ _ _ _ _)
      | (with_reducible exact loop_back.mono _ _ _ _)
      | (with_reducible exact relax_Layers.mono _ _ _)
      | (with_reducible exact LeO.refl _)
      | (with_reducible exact LeO.none _)
      | (with_reducible refine LeO.ite ?_ ?_)
      | (with_reducible refine LeO.bind ?_ (fun _ => ?_))
      | exact ih0 _ _ _ _ _ _
      | exact loop_back.mono _ _ _ _
      | exact relax_Layers.mono _ _ _
      | exact LeO.none _
      | refine LeO.ite ?_ ?_
      | refine LeO.bind ?_ (fun _ => ?_)
set_option maxHeartbeats 8000000 in
set_option maxRecDepth 100000 in
theorem loop_Of.calls (k : Nat) (a0 : Int) (A1 : Option Addr) (c1 : Nat) (l1 : List (S48)) (r : List (S48)) (w : World) (hr1 : Kd.C k48 w A1 l1.length l1) (hc1 : l1.length ≤ c1) (h : loop_Of.f k a0 l1 = some r) :
    Calls Try.prog 32 #[.int .i64 a0, .slice A1 l1.length c1] w fun e w' => ∃ v0_ : Value, e = .returned (v0_) ∧ Kd.R k48 48 w' w.heap.size (fun _ => True) v0_ r ∧ Below w.heap.size w w' := by
  have HR1 := Aside0.mk hr1
  have HC1 := Aside0.mk hc1
  clear hr1 hc1
  have HB := Aside0.mk (Below.refl w.heap.size w)
  have H : ((relax_Layers.f k a0 l1).bind fun bt206 => (if (bt206.1.length : Int) < 2 then (some ([] : List (S48))) else (loop_Of.l0 k a0 l1 bt206.1 bt206.2 a0 0))) = some r := h
  clear h
  replace H := Option.bind_eq_some_iff.mp H
  obtain ⟨⟨t206, t209⟩, A30, H⟩ := H
  replace H : (if (t206.length : Int) < 2 then (some ([] : List (S48))) else (loop_Of.l0 k a0 l1 t206 t209 a0 0)) = some r := H
  have A3 := Aside0.mk A30
  clear A30
  by_cases c4 : (t206.length : Int) < 2
  · rw [if_pos c4] at H
    have c4b0 : decide ((t206.length : Int) < 2) = true := decide_eq_true c4
    have c4b1 : decide (t206.length < 2) = true := decide_eq_true (by omega)
    clear c4
    obtain rfl := Option.some.inj H
    go_enter Try.func32, Try.ntmps32
    go_wp2_with (first | (go_at_call 21; (with_reducible refine (relax_Layers.calls k a0 _ _ l1 t206 t209 _ ?side1 ?side2 A3.out).mono ?_); (case side1 => repeat (first | exact HR1.out | (with_reducible refine Kd.C_alloc ?_ _) | (with_reducible refine Kd.C_drewN ?_ _) | (with_reducible refine Kd.C_drew ?_))); (case side2 => exact HC1.out); rintro e w5 ⟨v207, v210, rfl, ho0, ho1, hb⟩; have n0_ := Aside0.mk (Kd.N_lower (Kd.N_mono (ok' := fun k_ => some k_ ≠ (v210 : Value).ownBlock) ho0 (fun k_ hk_ => hk_.2)) (below_size (by repeat (first | (with_reducible first | exact HB.out | apply below_alloc | apply pw_below_drewN | apply below_drew1) | exact HB.out)))); have n1_ := Aside0.mk (Kd.N_lower (Kd.N_mono (ok' := fun k_ => some k_ ≠ (v207 : Value).ownBlock) ho1 (fun k_ hk_ => hk_.2)) (below_size (by repeat (first | (with_reducible first | exact HB.out | apply below_alloc | apply pw_below_drewN | apply below_drew1) | exact HB.out)))); have n2_ := Aside0.mk (below_step (by repeat (first | (with_reducible first | exact HB.out | apply below_alloc | apply pw_below_drewN | apply below_drew1) | exact HB.out)) hb); clear HB; have HO208 := n0_; have HO211 := n1_; have HB := n2_; clear n0_ n1_ n2_; (try clear hb); (try clear hb2); (try clear hk); (try clear hi); (try clear ho0); (try clear ho1); obtain ⟨Ao6, co6, eo6⟩ := Kd.N_slice HO208.out; subst eo6))
    repeat (go_quiet (first | (go_at_call 21; (with_reducible refine (relax_Layers.calls k a0 _ _ l1 t206 t209 _ ?side1 ?side2 A3.out).mono ?_); (case side1 => repeat (first | exact HR1.out | (with_reducible refine Kd.C_alloc ?_ _) | (with_reducible refine Kd.C_drewN ?_ _) | (with_reducible refine Kd.C_drew ?_))); (case side2 => exact HC1.out); rintro e w5 ⟨v207, v210, rfl, ho0, ho1, hb⟩; have n0_ := Aside0.mk (Kd.N_lower (Kd.N_mono (ok' := fun k_ => some k_ ≠ (v210 : Value).ownBlock) ho0 (fun k_ hk_ => hk_.2)) (below_size (by repeat (first | (with_reducible first | exact HB.out | apply below_alloc | apply pw_below_drewN | apply below_drew1) | exact HB.out)))); have n1_ := Aside0.mk (Kd.N_lower (Kd.N_mono (ok' := fun k_ => some k_ ≠ (v207 : Value).ownBlock) ho1 (fun k_ hk_ => hk_.2)) (below_size (by repeat (first | (with_reducible first | exact HB.out | apply below_alloc | apply pw_below_drewN | apply below_drew1) | exact HB.out)))); have n2_ := Aside0.mk (below_step (by repeat (first | (with_reducible first | exact HB.out | apply below_alloc | apply pw_below_drewN | apply below_drew1) | exact HB.out)) hb); clear HB; have HO208 := n0_; have HO211 := n1_; have HB := n2_; clear n0_ n1_ n2_; (try clear hb); (try clear hb2); (try clear hk); (try clear hi); (try clear ho0); (try clear ho1); obtain ⟨Ao6, co6, eo6⟩ := Kd.N_slice HO208.out; subst eo6)); try go_wp2_with (first | (go_at_call 21; (with_reducible refine (relax_Layers.calls k a0 _ _ l1 t206 t209 _ ?side1 ?side2 A3.out).mono ?_); (case side1 => repeat (first | exact HR1.out | (with_reducible refine Kd.C_alloc ?_ _) | (with_reducible refine Kd.C_drewN ?_ _) | (with_reducible refine Kd.C_drew ?_))); (case side2 => exact HC1.out); rintro e w5 ⟨v207, v210, rfl, ho0, ho1, hb⟩; have n0_ := Aside0.mk (Kd.N_lower (Kd.N_mono (ok' := fun k_ => some k_ ≠ (v210 : Value).ownBlock) ho0 (fun k_ hk_ => hk_.2)) (below_size (by repeat (first | (with_reducible first | exact HB.out | apply below_alloc | apply pw_below_drewN | apply below_drew1) | exact HB.out)))); have n1_ := Aside0.mk (Kd.N_lower (Kd.N_mono (ok' := fun k_ => some k_ ≠ (v207 : Value).ownBlock) ho1 (fun k_ hk_ => hk_.2)) (below_size (by repeat (first | (with_reducible first | exact HB.out | apply below_alloc | apply pw_below_drewN | apply below_drew1) | exact HB.out)))); have n2_ := Aside0.mk (below_step (by repeat (first | (with_reducible first | exact HB.out | apply below_alloc | apply pw_below_drewN | apply below_drew1) | exact HB.out)) hb); clear HB; have HO208 := n0_; have HO211 := n1_; have HB := n2_; clear n0_ n1_ n2_; (try clear hb); (try clear hb2); (try clear hk); (try clear hi); (try clear ho0); (try clear ho1); obtain ⟨Ao6, co6, eo6⟩ := Kd.N_slice HO208.out; subst eo6)))
    go_ret
    exact ⟨_, by first | rfl | (simp [errW_none, errW_some] <;> rfl) | (simp [*, errW_none, errW_some] <;> rfl), by first | exact Kd.R_nil _ _ _ _ _ | exact Kd.N_nil _ _ _ _ _ | exact Kd.V_nil _ _ _ _ _ | exact Kd.Q_nil _ _ _ _ _ | exact Kd.S_nil _ _ _ _ _, by repeat (first | (with_reducible first | exact HB.out | apply below_alloc | apply pw_below_drewN | apply below_drew1) | exact HB.out)⟩
  · rw [if_neg c4] at H
    have c4b0 : decide ((t206.length : Int) < 2) = false := decide_eq_false c4
    have c4b1 : decide (t206.length < 2) = false := decide_eq_false (by omega)
    clear c4
    have H' := Aside0.mk H
    clear H
    go_enter Try.func32, Try.ntmps32
    go_wp2_with (first | (go_at_call 21; (with_reducible refine (relax_Layers.calls k a0 _ _ l1 t206 t209 _ ?side1 ?side2 A3.out).mono ?_); (case side1 => repeat (first | exact HR1.out | (with_reducible refine Kd.C_alloc ?_ _) | (with_reducible refine Kd.C_drewN ?_ _) | (with_reducible refine Kd.C_drew ?_))); (case side2 => exact HC1.out); rintro e w7 ⟨v207, v210, rfl, ho0, ho1, hb⟩; have n0_ := Aside0.mk (Kd.N_lower (Kd.N_mono (ok' := fun k_ => some k_ ≠ (v210 : Value).ownBlock) ho0 (fun k_ hk_ => hk_.2)) (below_size (by repeat (first | (with_reducible first | exact HB.out | apply below_alloc | apply pw_below_drewN | apply below_drew1) | exact HB.out)))); have n1_ := Aside0.mk (Kd.N_lower (Kd.N_mono (ok' := fun k_ => some k_ ≠ (v207 : Value).ownBlock) ho1 (fun k_ hk_ => hk_.2)) (below_size (by repeat (first | (with_reducible first | exact HB.out | apply below_alloc | apply pw_below_drewN | apply below_drew1) | exact HB.out)))); have n2_ := Aside0.mk (below_step (by repeat (first | (with_reducible first | exact HB.out | apply below_alloc | apply pw_below_drewN | apply below_drew1) | exact HB.out)) hb); clear HB; have HO208 := n0_; have HO211 := n1_; have HB := n2_; clear n0_ n1_ n2_; (try clear hb); (try clear hb2); (try clear hk); (try clear hi); (try clear ho0); (try clear ho1); obtain ⟨Ao8, co8, eo8⟩ := Kd.N_slice HO208.out; subst eo8))
    repeat (go_quiet (first | (go_at_call 21; (with_reducible refine (relax_Layers.calls k a0 _ _ l1 t206 t209 _ ?side1 ?side2 A3.out).mono ?_); (case side1 => repeat (first | exact HR1.out | (with_reducible refine Kd.C_alloc ?_ _) | (with_reducible refine Kd.C_drewN ?_ _) | (with_reducible refine Kd.C_drew ?_))); (case side2 => exact HC1.out); rintro e w7 ⟨v207, v210, rfl, ho0, ho1, hb⟩; have n0_ := Aside0.mk (Kd.N_lower (Kd.N_mono (ok' := fun k_ => some k_ ≠ (v210 : Value).ownBlock) ho0 (fun k_ hk_ => hk_.2)) (below_size (by repeat (first | (with_reducible first | exact HB.out | apply below_alloc | apply pw_below_drewN | apply below_drew1) | exact HB.out)))); have n1_ := Aside0.mk (Kd.N_lower (Kd.N_mono (ok' := fun k_ => some k_ ≠ (v207 : Value).ownBlock) ho1 (fun k_ hk_ => hk_.2)) (below_size (by repeat (first | (with_reducible first | exact HB.out | apply below_alloc | apply pw_below_drewN | apply below_drew1) | exact HB.out)))); have n2_ := Aside0.mk (below_step (by repeat (first | (with_reducible first | exact HB.out | apply below_alloc | apply pw_below_drewN | apply below_drew1) | exact HB.out)) hb); clear HB; have HO208 := n0_; have HO211 := n1_; have HB := n2_; clear n0_ n1_ n2_; (try clear hb); (try clear hb2); (try clear hk); (try clear hi); (try clear ho0); (try clear ho1); obtain ⟨Ao8, co8, eo8⟩ := Kd.N_slice HO208.out; subst eo8)); try go_wp2_with (first | (go_at_call 21; (with_reducible refine (relax_Layers.calls k a0 _ _ l1 t206 t209 _ ?side1 ?side2 A3.out).mono ?_); (case side1 => repeat (first | exact HR1.out | (with_reducible refine Kd.C_alloc ?_ _) | (with_reducible refine Kd.C_drewN ?_ _) | (with_reducible refine Kd.C_drew ?_))); (case side2 => exact HC1.out); rintro e w7 ⟨v207, v210, rfl, ho0, ho1, hb⟩; have n0_ := Aside0.mk (Kd.N_lower (Kd.N_mono (ok' := fun k_ => some k_ ≠ (v210 : Value).ownBlock) ho0 (fun k_ hk_ => hk_.2)) (below_size (by repeat (first | (with_reducible first | exact HB.out | apply below_alloc | apply pw_below_drewN | apply below_drew1) | exact HB.out)))); have n1_ := Aside0.mk (Kd.N_lower (Kd.N_mono (ok' := fun k_ => some k_ ≠ (v207 : Value).ownBlock) ho1 (fun k_ hk_ => hk_.2)) (below_size (by repeat (first | (with_reducible first | exact HB.out | apply below_alloc | apply pw_below_drewN | apply below_drew1) | exact HB.out)))); have n2_ := Aside0.mk (below_step (by repeat (first | (with_reducible first | exact HB.out | apply below_alloc | apply pw_below_drewN | apply below_drew1) | exact HB.out)) hb); clear HB; have HO208 := n0_; have HO211 := n1_; have HB := n2_; clear n0_ n1_ n2_; (try clear hb); (try clear hb2); (try clear hk); (try clear hi); (try clear ho0); (try clear ho1); obtain ⟨Ao8, co8, eo8⟩ := Kd.N_slice HO208.out; subst eo8)))
    go_loopg [18] k (fun kq v18 w' => ∃ (x18_1 : Int), v18 = .int .i64 x18_1 ∧ Aside0 (loop_Of.l0 kq a0 l1 t206 t209 a0 x18_1 = some r) ∧ Aside0 (kq ≤ k) ∧ Aside0 (Kd.N (Kd.slice 2 (Kd.int .i64)) 23 w' w.heap.size (fun k_ => some k_ ≠ (v210 : Value).ownBlock) (.slice Ao8 t206.length co8) t206) ∧ Aside0 (Kd.N (Kd.slice 3 (Kd.int .i64)) 37 w' w.heap.size (fun k_ => some k_ ≠ ((.slice Ao8 t206.length co8) : Value).ownBlock) v210 t209) ∧ Aside0 (Below w.heap.size w w'))
    case atStart => exact ⟨(0), (by first | rfl | (simp; done) | (simp [*]; done)), H', ⟨Nat.le_refl _⟩, ⟨by (with_reducible repeat (first | apply Kd.N_alloc | apply Kd.N_drewN | apply Kd.N_drew)); exact HO208.out⟩, ⟨by (with_reducible repeat (first | apply Kd.N_alloc | apply Kd.N_drewN | apply Kd.N_drew)); exact HO211.out⟩, ⟨by repeat (first | (with_reducible first | exact HB.out | apply below_alloc | apply pw_below_drewN | apply below_drew1) | exact HB.out)⟩⟩
    case round =>
      clear H'
      try clear c1
      try clear p2
      try clear c3
      try clear c4
      try clear c4b0
      try clear c4b1
      obtain ⟨x18_1, rfl, HA, HK1, HO_5, HO_6, HB⟩ := hrel
      cases gk with
      | zero => exact absurd HA.out (by simp [loop_Of.l0])
      | succ k1 =>
        have H := HA.out
        clear HA
        simp only [loop_Of.l0] at H
        by_cases c9 : x18_1 < a0
        · rw [if_pos c9] at H
          have c9b0 : decide (x18_1 < a0) = true := decide_eq_true c9
          clear c9
          by_cases c10 : 0 ≤ a0
          · rw [if_pos c10] at H
            have c10b0 : decide (0 ≤ a0) = true := decide_eq_true c10
            clear c10
            by_cases c11 : a0 < (t206.length : Int)
            · rw [if_pos c11] at H
              have c11b0 : decide (a0 < (t206.length : Int)) = true := decide_eq_true c11
              clear c11
              by_cases c12 : 0 ≤ x18_1
              · rw [if_pos c12] at H
                have c12b0 : decide (0 ≤ x18_1) = true := decide_eq_true c12
                clear c12
                by_cases c13 : x18_1 < ((rd_L4 t206 a0).length : Int)
                · rw [if_pos c13] at H
                  have c13b0 : decide (x18_1 < ((rd_L4 t206 a0).length : Int)) = true := decide_eq_true c13
                  clear c13
                  obtain ⟨ji14, hji14⟩ : ∃ j_ : Int, (wrap64 (a0 - 1)) = j_ := ⟨_, rfl⟩
                  replace H : (if 0 ≤ (ji14) then (if (ji14) < (t206.length : Int) then (if x18_1 < ((rd_L4 t206 (ji14)).length : Int) then (if (rd (rd_L4 t206 a0) x18_1) < (rd (rd_L4 t206 (ji14)) x18_1) then ((loop_back.f k1 x18_1 t209 l1).bind fun t216 => ((loop_turned.f t216).bind fun t219 => (some t219))) else (loop_Of.l0 k1 a0 l1 t206 t209 a0 (wrap64 (x18_1 + 1)))) else (none)) else (none)) else (none)) = some r := by first | (rw [hji14] at H; exact H) | (simp only [hji14] at H ⊢; exact H)
                  have hji14w : (IntKind.i64.wrap (a0 - 1)) = ji14 := (i64_w _).trans hji14
                  by_cases c15 : 0 ≤ (ji14)
                  · rw [if_pos c15] at H
                    have c15b0 : decide (0 ≤ (ji14)) = true := decide_eq_true c15
                    clear c15
                    by_cases c16 : (ji14) < (t206.length : Int)
                    · rw [if_pos c16] at H
                      have c16b0 : decide ((ji14) < (t206.length : Int)) = true := decide_eq_true c16
                      clear c16
                      by_cases c17 : x18_1 < ((rd_L4 t206 (ji14)).length : Int)
                      · rw [if_pos c17] at H
                        have c17b0 : decide (x18_1 < ((rd_L4 t206 (ji14)).length : Int)) = true := decide_eq_true c17
                        clear c17
                        by_cases c18 : (rd (rd_L4 t206 a0) x18_1) < (rd (rd_L4 t206 (ji14)) x18_1)
                        · rw [if_pos c18] at H
                          have c18b0 : decide ((rd (rd_L4 t206 a0) x18_1) < (rd (rd_L4 t206 (ji14)) x18_1)) = true := decide_eq_true c18
                          clear c18
                          replace H := Option.bind_eq_some_iff.mp H
                          obtain ⟨t216, A190, H⟩ := H
                          replace H : ((loop_turned.f t216).bind fun t219 => (some t219)) = some r := H
                          have A19 := Aside0.mk A190
                          clear A190
                          replace H := Option.bind_eq_some_iff.mp H
                          obtain ⟨t219, A200, H⟩ := H
                          replace H : (some t219) = some r := H
                          have A20 := Aside0.mk A200
                          clear A200
                          obtain rfl := Option.some.inj H
                          have p212 : 0 ≤ (a0 : Int) := of_decide_eq_true (by first | (with_reducible assumption) | assumption)
                          have q212 : a0 < (t206.length : Int) := of_decide_eq_true (by first | (with_reducible assumption) | assumption)
                          obtain ⟨ad212, A212_0, c212_0, e212, hx212_0, hl212_0, hi212_0⟩ := at_L4 (Kd.N_reads' HO_5.out).2.2 a0 p212 q212
                          cases e212
                          obtain ⟨ce212, hce212, hMe212, hcc212⟩ := Kd.N_get HO_5.out [] a0 p212 (by first | exact q212 | exact of_decide_eq_true (by first | (with_reducible assumption) | assumption) | (have e_ := (Kd.N_reads' HO_5.out).1; omega))
                          obtain ⟨ua212_0, uc212_0, rfl, ul212_0, ge212_0⟩ := Kd.FK_slice_open hMe212
                          have hv212_0 := hcc212 0 _ rfl
                          rw [Nat.add_zero, show ((Kd.slice 2 (Kd.int .i64))).sz = 1 from rfl, Nat.mul_one] at hv212_0
                          replace hv212_0 := Option.some.inj (hv212_0.symm.trans hx212_0)
                          injection hv212_0 with hva_ hvn_ hvc_
                          rw [hva_] at ge212_0
                          rw [hvc_] at ul212_0
                          have HL212_0 := Aside0.mk (show Kd.V (Kd.int .i64) 2 _ w.heap.size _ _ (rd_L4 t206 a0) from Kd.V_mk ul212_0 ge212_0)
                          clear hva_ hvn_ hvc_ ge212_0 ul212_0
                          clear hcc212 hce212
                          have HR212_0 := Aside0.mk hi212_0
                          have HC212_0 := Aside0.mk hl212_0
                          clear hi212_0 hl212_0
                          replace p212 := eq_true p212
                          replace q212 := eq_true q212
                          have p213 : 0 ≤ (x18_1 : Int) := of_decide_eq_true (by first | (with_reducible assumption) | assumption)
                          have q213 : x18_1 < ((rd_L4 t206 a0).length : Int) := of_decide_eq_true (by first | (with_reducible assumption) | assumption)
                          obtain ⟨ad213, e213, hx213_0⟩ := Kd.at_int (by repeat (first | (with_reducible exact HR212_0.out) | (with_reducible refine Kd.C_alloc ?_ _) | (with_reducible refine Kd.C_drewN ?_ _) | (with_reducible refine Kd.C_drew ?_) | exact HR212_0.out)) x18_1 p213 q213
                          cases e213
                          replace p213 := eq_true p213
                          replace q213 := eq_true q213
                          have p214 : 0 ≤ ((ji14) : Int) := of_decide_eq_true (by first | (with_reducible assumption) | assumption)
                          have q214 : (ji14) < (t206.length : Int) := of_decide_eq_true (by first | (with_reducible assumption) | assumption)
                          obtain ⟨ad214, A214_0, c214_0, e214, hx214_0, hl214_0, hi214_0⟩ := at_L4 (Kd.N_reads' HO_5.out).2.2 (ji14) p214 q214
                          obtain rfl : ad212 = ad214 := (by injection e214)
                          obtain ⟨ce214, hce214, hMe214, hcc214⟩ := Kd.N_get HO_5.out [] (ji14) p214 (by first | exact q214 | exact of_decide_eq_true (by first | (with_reducible assumption) | assumption) | (have e_ := (Kd.N_reads' HO_5.out).1; omega))
                          obtain ⟨ua214_0, uc214_0, rfl, ul214_0, ge214_0⟩ := Kd.FK_slice_open hMe214
                          have hv214_0 := hcc214 0 _ rfl
                          rw [Nat.add_zero, show ((Kd.slice 2 (Kd.int .i64))).sz = 1 from rfl, Nat.mul_one] at hv214_0
                          replace hv214_0 := Option.some.inj (hv214_0.symm.trans hx214_0)
                          injection hv214_0 with hva_ hvn_ hvc_
                          rw [hva_] at ge214_0
                          rw [hvc_] at ul214_0
                          have HL214_0 := Aside0.mk (show Kd.V (Kd.int .i64) 2 _ w.heap.size _ _ (rd_L4 t206 (ji14)) from Kd.V_mk ul214_0 ge214_0)
                          clear hva_ hvn_ hvc_ ge214_0 ul214_0
                          clear hcc214 hce214
                          have HR214_0 := Aside0.mk hi214_0
                          have HC214_0 := Aside0.mk hl214_0
                          clear hi214_0 hl214_0
                          replace p214 := eq_true p214
                          replace q214 := eq_true q214
                          have p215 : 0 ≤ (x18_1 : Int) := of_decide_eq_true (by first | (with_reducible assumption) | assumption)
                          have q215 : x18_1 < ((rd_L4 t206 (ji14)).length : Int) := of_decide_eq_true (by first | (with_reducible assumption) | assumption)
                          obtain ⟨ad215, e215, hx215_0⟩ := Kd.at_int (by repeat (first | (with_reducible exact HR214_0.out) | (with_reducible refine Kd.C_alloc ?_ _) | (with_reducible refine Kd.C_drewN ?_ _) | (with_reducible refine Kd.C_drew ?_) | exact HR214_0.out)) x18_1 p215 q215
                          cases e215
                          replace p215 := eq_true p215
                          replace q215 := eq_true q215
                          obtain ⟨Ao21, co21, eo21⟩ := Kd.N_slice HO_6.out
                          subst eo21
                          go_wp2_with (first | (go_at_call 47; (with_reducible refine (loop_back.calls k1 x18_1 _ _ t209 _ _ l1 t216 _ ?side1 ?side2 ?side3 ?side4 A19.out).mono ?_); (case side1 => repeat (first | exact (Kd.N_reads' HO_6.out).2.2 | (with_reducible refine Kd.C_alloc ?_ _) | (with_reducible refine Kd.C_drewN ?_ _) | (with_reducible refine Kd.C_drew ?_))); (case side2 => exact (Kd.N_reads' HO_6.out).2.1); (case side3 => repeat (first | exact (Kd.C_below HR1.out HB.out) | (with_reducible refine Kd.C_alloc ?_ _) | (with_reducible refine Kd.C_drewN ?_ _) | (with_reducible refine Kd.C_drew ?_))); (case side4 => exact HC1.out); rintro e w22 ⟨v217, rfl, ho0, hb⟩; have n0_ := Aside0.mk (Kd.N_elder' (by (with_reducible repeat (first | apply Kd.N_alloc | apply Kd.N_drewN | apply Kd.N_drew)); exact HO_5.out) (Kd.R_base ho0) hb); have n1_ := Aside0.mk (Kd.N_elder' (by (with_reducible repeat (first | apply Kd.N_alloc | apply Kd.N_drewN | apply Kd.N_drew)); exact HO_6.out) (Kd.R_base ho0) hb); have n2_ := Aside0.mk (Kd.V_elder' (by (with_reducible repeat (first | apply Kd.V_alloc | apply Kd.V_drewN | apply Kd.V_drew)); exact HL212_0.out) (Kd.R_base ho0) hb); have n3_ := Aside0.mk (Kd.V_elder' (by (with_reducible repeat (first | apply Kd.V_alloc | apply Kd.V_drewN | apply Kd.V_drew)); exact HL214_0.out) (Kd.R_base ho0) hb); have n4_ := Aside0.mk (Kd.R_lower ho0 (below_size (by repeat (first | (with_reducible first | exact HB.out | apply below_alloc | apply pw_below_drewN | apply below_drew1) | exact HB.out)))); have n5_ := Aside0.mk (Kd.C_below (by repeat (first | (with_reducible exact HR212_0.out) | (with_reducible refine Kd.C_alloc ?_ _) | (with_reducible refine Kd.C_drewN ?_ _) | (with_reducible refine Kd.C_drew ?_) | exact HR212_0.out)) hb); have n6_ := Aside0.mk (Kd.C_below (by repeat (first | (with_reducible exact HR214_0.out) | (with_reducible refine Kd.C_alloc ?_ _) | (with_reducible refine Kd.C_drewN ?_ _) | (with_reducible refine Kd.C_drew ?_) | exact HR214_0.out)) hb); have n7_ := Aside0.mk (below_step (by repeat (first | (with_reducible first | exact HB.out | apply below_alloc | apply pw_below_drewN | apply below_drew1) | exact HB.out)) hb); clear HO_5; clear HO_6; clear HL212_0; clear HL214_0; clear HR212_0; clear HR214_0; clear HB; have HO_5 := n0_; have HO_6 := n1_; have HL212_0 := n2_; have HL214_0 := n3_; have HO218 := n4_; have HR212_0 := n5_; have HR214_0 := n6_; have HB := n7_; clear n0_ n1_ n2_ n3_ n4_ n5_ n6_ n7_; (try clear hb); (try clear hb2); (try clear hk); (try clear hi); (try clear ho0); obtain ⟨Ao23, co23, eo23⟩ := Kd.R_slice HO218.out; subst eo23) | (go_at_call 46; (with_reducible refine (loop_turned.calls _ _ t216 t219 _ ?side1 ?side2 A20.out).mono ?_); (case side1 => repeat (first | exact (Kd.R_reads' HO218.out).2.2 | (with_reducible refine Kd.C_alloc ?_ _) | (with_reducible refine Kd.C_drewN ?_ _) | (with_reducible refine Kd.C_drew ?_))); (case side2 => exact (Kd.R_reads' HO218.out).2.1); rintro e w24 ⟨v220, rfl, ho0, hb⟩; have n0_ := Aside0.mk (Kd.N_elder' (by (with_reducible repeat (first | apply Kd.N_alloc | apply Kd.N_drewN | apply Kd.N_drew)); exact HO_5.out) (Kd.R_base ho0) hb); have n1_ := Aside0.mk (Kd.N_elder' (by (with_reducible repeat (first | apply Kd.N_alloc | apply Kd.N_drewN | apply Kd.N_drew)); exact HO_6.out) (Kd.R_base ho0) hb); have n2_ := Aside0.mk (Kd.V_elder' (by (with_reducible repeat (first | apply Kd.V_alloc | apply Kd.V_drewN | apply Kd.V_drew)); exact HL212_0.out) (Kd.R_base ho0) hb); have n3_ := Aside0.mk (Kd.V_elder' (by (with_reducible repeat (first | apply Kd.V_alloc | apply Kd.V_drewN | apply Kd.V_drew)); exact HL214_0.out) (Kd.R_base ho0) hb); have n4_ := Aside0.mk (Kd.R_elder' (by (with_reducible repeat (first | apply Kd.R_alloc | apply Kd.R_drewN | apply Kd.R_drew)); exact HO218.out) (Kd.R_base ho0) hb); have n5_ := Aside0.mk (Kd.R_lower (Kd.R_new' ho0 (Kd.R_lt (by (with_reducible repeat (first | apply Kd.R_alloc | apply Kd.R_drewN | apply Kd.R_drew)); exact HO218.out))) (below_size (by repeat (first | (with_reducible first | exact HB.out | apply below_alloc | apply pw_below_drewN | apply below_drew1) | exact HB.out)))); have n6_ := Aside0.mk (Kd.C_below (by repeat (first | (with_reducible exact HR212_0.out) | (with_reducible refine Kd.C_alloc ?_ _) | (with_reducible refine Kd.C_drewN ?_ _) | (with_reducible refine Kd.C_drew ?_) | exact HR212_0.out)) hb); have n7_ := Aside0.mk (Kd.C_below (by repeat (first | (with_reducible exact HR214_0.out) | (with_reducible refine Kd.C_alloc ?_ _) | (with_reducible refine Kd.C_drewN ?_ _) | (with_reducible refine Kd.C_drew ?_) | exact HR214_0.out)) hb); have n8_ := Aside0.mk (below_step (by repeat (first | (with_reducible first | exact HB.out | apply below_alloc | apply pw_below_drewN | apply below_drew1) | exact HB.out)) hb); clear HO_5; clear HO_6; clear HL212_0; clear HL214_0; clear HO218; clear HR212_0; clear HR214_0; clear HB; have HO_5 := n0_; have HO_6 := n1_; have HL212_0 := n2_; have HL214_0 := n3_; have HO218 := n4_; have HO221 := n5_; have HR212_0 := n6_; have HR214_0 := n7_; have HB := n8_; clear n0_ n1_ n2_ n3_ n4_ n5_ n6_ n7_ n8_; (try clear hb); (try clear hb2); (try clear hk); (try clear hi); (try clear ho0)))
                          repeat (go_quiet (first | (go_at_call 47; (with_reducible refine (loop_back.calls k1 x18_1 _ _ t209 _ _ l1 t216 _ ?side1 ?side2 ?side3 ?side4 A19.out).mono ?_); (case side1 => repeat (first | exact (Kd.N_reads' HO_6.out).2.2 | (with_reducible refine Kd.C_alloc ?_ _) | (with_reducible refine Kd.C_drewN ?_ _) | (with_reducible refine Kd.C_drew ?_))); (case side2 => exact (Kd.N_reads' HO_6.out).2.1); (case side3 => repeat (first | exact (Kd.C_below HR1.out HB.out) | (with_reducible refine Kd.C_alloc ?_ _) | (with_reducible refine Kd.C_drewN ?_ _) | (with_reducible refine Kd.C_drew ?_))); (case side4 => exact HC1.out); rintro e w22 ⟨v217, rfl, ho0, hb⟩; have n0_ := Aside0.mk (Kd.N_elder' (by (with_reducible repeat (first | apply Kd.N_alloc | apply Kd.N_drewN | apply Kd.N_drew)); exact HO_5.out) (Kd.R_base ho0) hb); have n1_ := Aside0.mk (Kd.N_elder' (by (with_reducible repeat (first | apply Kd.N_alloc | apply Kd.N_drewN | apply Kd.N_drew)); exact HO_6.out) (Kd.R_base ho0) hb); have n2_ := Aside0.mk (Kd.V_elder' (by (with_reducible repeat (first | apply Kd.V_alloc | apply Kd.V_drewN | apply Kd.V_drew)); exact HL212_0.out) (Kd.R_base ho0) hb); have n3_ := Aside0.mk (Kd.V_elder' (by (with_reducible repeat (first | apply Kd.V_alloc | apply Kd.V_drewN | apply Kd.V_drew)); exact HL214_0.out) (Kd.R_base ho0) hb); have n4_ := Aside0.mk (Kd.R_lower ho0 (below_size (by repeat (first | (with_reducible first | exact HB.out | apply below_alloc | apply pw_below_drewN | apply below_drew1) | exact HB.out)))); have n5_ := Aside0.mk (Kd.C_below (by repeat (first | (with_reducible exact HR212_0.out) | (with_reducible refine Kd.C_alloc ?_ _) | (with_reducible refine Kd.C_drewN ?_ _) | (with_reducible refine Kd.C_drew ?_) | exact HR212_0.out)) hb); have n6_ := Aside0.mk (Kd.C_below (by repeat (first | (with_reducible exact HR214_0.out) | (with_reducible refine Kd.C_alloc ?_ _) | (with_reducible refine Kd.C_drewN ?_ _) | (with_reducible refine Kd.C_drew ?_) | exact HR214_0.out)) hb); have n7_ := Aside0.mk (below_step (by repeat (first | (with_reducible first | exact HB.out | apply below_alloc | apply pw_below_drewN | apply below_drew1) | exact HB.out)) hb); clear HO_5; clear HO_6; clear HL212_0; clear HL214_0; clear HR212_0; clear HR214_0; clear HB; have HO_5 := n0_; have HO_6 := n1_; have HL212_0 := n2_; have HL214_0 := n3_; have HO218 := n4_; have HR212_0 := n5_; have HR214_0 := n6_; have HB := n7_; clear n0_ n1_ n2_ n3_ n4_ n5_ n6_ n7_; (try clear hb); (try clear hb2); (try clear hk); (try clear hi); (try clear ho0); obtain ⟨Ao23, co23, eo23⟩ := Kd.R_slice HO218.out; subst eo23) | (go_at_call 46; (with_reducible refine (loop_turned.calls _ _ t216 t219 _ ?side1 ?side2 A20.out).mono ?_); (case side1 => repeat (first | exact (Kd.R_reads' HO218.out).2.2 | (with_reducible refine Kd.C_alloc ?_ _) | (with_reducible refine Kd.C_drewN ?_ _) | (with_reducible refine Kd.C_drew ?_))); (case side2 => exact (Kd.R_reads' HO218.out).2.1); rintro e w24 ⟨v220, rfl, ho0, hb⟩; have n0_ := Aside0.mk (Kd.N_elder' (by (with_reducible repeat (first | apply Kd.N_alloc | apply Kd.N_drewN | apply Kd.N_drew)); exact HO_5.out) (Kd.R_base ho0) hb); have n1_ := Aside0.mk (Kd.N_elder' (by (with_reducible repeat (first | apply Kd.N_alloc | apply Kd.N_drewN | apply Kd.N_drew)); exact HO_6.out) (Kd.R_base ho0) hb); have n2_ := Aside0.mk (Kd.V_elder' (by (with_reducible repeat (first | apply Kd.V_alloc | apply Kd.V_drewN | apply Kd.V_drew)); exact HL212_0.out) (Kd.R_base ho0) hb); have n3_ := Aside0.mk (Kd.V_elder' (by (with_reducible repeat (first | apply Kd.V_alloc | apply Kd.V_drewN | apply Kd.V_drew)); exact HL214_0.out) (Kd.R_base ho0) hb); have n4_ := Aside0.mk (Kd.R_elder' (by (with_reducible repeat (first | apply Kd.R_alloc | apply Kd.R_drewN | apply Kd.R_drew)); exact HO218.out) (Kd.R_base ho0) hb); have n5_ := Aside0.mk (Kd.R_lower (Kd.R_new' ho0 (Kd.R_lt (by (with_reducible repeat (first | apply Kd.R_alloc | apply Kd.R_drewN | apply Kd.R_drew)); exact HO218.out))) (below_size (by repeat (first | (with_reducible first | exact HB.out | apply below_alloc | apply pw_below_drewN | apply below_drew1) | exact HB.out)))); have n6_ := Aside0.mk (Kd.C_below (by repeat (first | (with_reducible exact HR212_0.out) | (with_reducible refine Kd.C_alloc ?_ _) | (with_reducible refine Kd.C_drewN ?_ _) | (with_reducible refine Kd.C_drew ?_) | exact HR212_0.out)) hb); have n7_ := Aside0.mk (Kd.C_below (by repeat (first | (with_reducible exact HR214_0.out) | (with_reducible refine Kd.C_alloc ?_ _) | (with_reducible refine Kd.C_drewN ?_ _) | (with_reducible refine Kd.C_drew ?_) | exact HR214_0.out)) hb); have n8_ := Aside0.mk (below_step (by repeat (first | (with_reducible first | exact HB.out | apply below_alloc | apply pw_below_drewN | apply below_drew1) | exact HB.out)) hb); clear HO_5; clear HO_6; clear HL212_0; clear HL214_0; clear HO218; clear HR212_0; clear HR214_0; clear HB; have HO_5 := n0_; have HO_6 := n1_; have HL212_0 := n2_; have HL214_0 := n3_; have HO218 := n4_; have HO221 := n5_; have HR212_0 := n6_; have HR214_0 := n7_; have HB := n8_; clear n0_ n1_ n2_ n3_ n4_ n5_ n6_ n7_ n8_; (try clear hb); (try clear hb2); (try clear hk); (try clear hi); (try clear ho0))); try go_wp2_with (first | (go_at_call 47; (with_reducible refine (loop_back.calls k1 x18_1 _ _ t209 _ _ l1 t216 _ ?side1 ?side2 ?side3 ?side4 A19.out).mono ?_); (case side1 => repeat (first | exact (Kd.N_reads' HO_6.out).2.2 | (with_reducible refine Kd.C_alloc ?_ _) | (with_reducible refine Kd.C_drewN ?_ _) | (with_reducible refine Kd.C_drew ?_))); (case side2 => exact (Kd.N_reads' HO_6.out).2.1); (case side3 => repeat (first | exact (Kd.C_below HR1.out HB.out) | (with_reducible refine Kd.C_alloc ?_ _) | (with_reducible refine Kd.C_drewN ?_ _) | (with_reducible refine Kd.C_drew ?_))); (case side4 => exact HC1.out); rintro e w22 ⟨v217, rfl, ho0, hb⟩; have n0_ := Aside0.mk (Kd.N_elder' (by (with_reducible repeat (first | apply Kd.N_alloc | apply Kd.N_drewN | apply Kd.N_drew)); exact HO_5.out) (Kd.R_base ho0) hb); have n1_ := Aside0.mk (Kd.N_elder' (by (with_reducible repeat (first | apply Kd.N_alloc | apply Kd.N_drewN | apply Kd.N_drew)); exact HO_6.out) (Kd.R_base ho0) hb); have n2_ := Aside0.mk (Kd.V_elder' (by (with_reducible repeat (first | apply Kd.V_alloc | apply Kd.V_drewN | apply Kd.V_drew)); exact HL212_0.out) (Kd.R_base ho0) hb); have n3_ := Aside0.mk (Kd.V_elder' (by (with_reducible repeat (first | apply Kd.V_alloc | apply Kd.V_drewN | apply Kd.V_drew)); exact HL214_0.out) (Kd.R_base ho0) hb); have n4_ := Aside0.mk (Kd.R_lower ho0 (below_size (by repeat (first | (with_reducible first | exact HB.out | apply below_alloc | apply pw_below_drewN | apply below_drew1) | exact HB.out)))); have n5_ := Aside0.mk (Kd.C_below (by repeat (first | (with_reducible exact HR212_0.out) | (with_reducible refine Kd.C_alloc ?_ _) | (with_reducible refine Kd.C_drewN ?_ _) | (with_reducible refine Kd.C_drew ?_) | exact HR212_0.out)) hb); have n6_ := Aside0.mk (Kd.C_below (by repeat (first | (with_reducible exact HR214_0.out) | (with_reducible refine Kd.C_alloc ?_ _) | (with_reducible refine Kd.C_drewN ?_ _) | (with_reducible refine Kd.C_drew ?_) | exact HR214_0.out)) hb); have n7_ := Aside0.mk (below_step (by repeat (first | (with_reducible first | exact HB.out | apply below_alloc | apply pw_below_drewN | apply below_drew1) | exact HB.out)) hb); clear HO_5; clear HO_6; clear HL212_0; clear HL214_0; clear HR212_0; clear HR214_0; clear HB; have HO_5 := n0_; have HO_6 := n1_; have HL212_0 := n2_; have HL214_0 := n3_; have HO218 := n4_; have HR212_0 := n5_; have HR214_0 := n6_; have HB := n7_; clear n0_ n1_ n2_ n3_ n4_ n5_ n6_ n7_; (try clear hb); (try clear hb2); (try clear hk); (try clear hi); (try clear ho0); obtain ⟨Ao23, co23, eo23⟩ := Kd.R_slice HO218.out; subst eo23) | (go_at_call 46; (with_reducible refine (loop_turned.calls _ _ t216 t219 _ ?side1 ?side2 A20.out).mono ?_); (case side1 => repeat (first | exact (Kd.R_reads' HO218.out).2.2 | (with_reducible refine Kd.C_alloc ?_ _) | (with_reducible refine Kd.C_drewN ?_ _) | (with_reducible refine Kd.C_drew ?_))); (case side2 => exact (Kd.R_reads' HO218.out).2.1); rintro e w24 ⟨v220, rfl, ho0, hb⟩; have n0_ := Aside0.mk (Kd.N_elder' (by (with_reducible repeat (first | apply Kd.N_alloc | apply Kd.N_drewN | apply Kd.N_drew)); exact HO_5.out) (Kd.R_base ho0) hb); have n1_ := Aside0.mk (Kd.N_elder' (by (with_reducible repeat (first | apply Kd.N_alloc | apply Kd.N_drewN | apply Kd.N_drew)); exact HO_6.out) (Kd.R_base ho0) hb); have n2_ := Aside0.mk (Kd.V_elder' (by (with_reducible repeat (first | apply Kd.V_alloc | apply Kd.V_drewN | apply Kd.V_drew)); exact HL212_0.out) (Kd.R_base ho0) hb); have n3_ := Aside0.mk (Kd.V_elder' (by (with_reducible repeat (first | apply Kd.V_alloc | apply Kd.V_drewN | apply Kd.V_drew)); exact HL214_0.out) (Kd.R_base ho0) hb); have n4_ := Aside0.mk (Kd.R_elder' (by (with_reducible repeat (first | apply Kd.R_alloc | apply Kd.R_drewN | apply Kd.R_drew)); exact HO218.out) (Kd.R_base ho0) hb); have n5_ := Aside0.mk (Kd.R_lower (Kd.R_new' ho0 (Kd.R_lt (by (with_reducible repeat (first | apply Kd.R_alloc | apply Kd.R_drewN | apply Kd.R_drew)); exact HO218.out))) (below_size (by repeat (first | (with_reducible first | exact HB.out | apply below_alloc | apply pw_below_drewN | apply below_drew1) | exact HB.out)))); have n6_ := Aside0.mk (Kd.C_below (by repeat (first | (with_reducible exact HR212_0.out) | (with_reducible refine Kd.C_alloc ?_ _) | (with_reducible refine Kd.C_drewN ?_ _) | (with_reducible refine Kd.C_drew ?_) | exact HR212_0.out)) hb); have n7_ := Aside0.mk (Kd.C_below (by repeat (first | (with_reducible exact HR214_0.out) | (with_reducible refine Kd.C_alloc ?_ _) | (with_reducible refine Kd.C_drewN ?_ _) | (with_reducible refine Kd.C_drew ?_) | exact HR214_0.out)) hb); have n8_ := Aside0.mk (below_step (by repeat (first | (with_reducible first | exact HB.out | apply below_alloc | apply pw_below_drewN | apply below_drew1) | exact HB.out)) hb); clear HO_5; clear HO_6; clear HL212_0; clear HL214_0; clear HO218; clear HR212_0; clear HR214_0; clear HB; have HO_5 := n0_; have HO_6 := n1_; have HL212_0 := n2_; have HL214_0 := n3_; have HO218 := n4_; have HO221 := n5_; have HR212_0 := n6_; have HR214_0 := n7_; have HB := n8_; clear n0_ n1_ n2_ n3_ n4_ n5_ n6_ n7_ n8_; (try clear hb); (try clear hb2); (try clear hk); (try clear hi); (try clear ho0))))
                          go_ret
                          exact ⟨_, by first | rfl | (simp [errW_none, errW_some] <;> rfl) | (simp only [← hji14]; first | rfl | (simp [errW_none, errW_some] <;> rfl)) | (simp [*, errW_none, errW_some] <;> rfl), by (with_reducible repeat (first | apply Kd.R_alloc | apply Kd.R_drewN | apply Kd.R_drew)); exact Kd.R_mono HO221.out (fun _ hk => trivial), by repeat (first | (with_reducible first | exact HB.out | apply below_alloc | apply pw_below_drewN | apply below_drew1) | exact HB.out)⟩
                        · rw [if_neg c18] at H
                          have c18b0 : decide ((rd (rd_L4 t206 a0) x18_1) < (rd (rd_L4 t206 (ji14)) x18_1)) = false := decide_eq_false c18
                          clear c18
                          have H' := Aside0.mk H
                          clear H
                          have p212 : 0 ≤ (a0 : Int) := of_decide_eq_true (by first | (with_reducible assumption) | assumption)
                          have q212 : a0 < (t206.length : Int) := of_decide_eq_true (by first | (with_reducible assumption) | assumption)
                          obtain ⟨ad212, A212_0, c212_0, e212, hx212_0, hl212_0, hi212_0⟩ := at_L4 (Kd.N_reads' HO_5.out).2.2 a0 p212 q212
                          cases e212
                          obtain ⟨ce212, hce212, hMe212, hcc212⟩ := Kd.N_get HO_5.out [] a0 p212 (by first | exact q212 | exact of_decide_eq_true (by first | (with_reducible assumption) | assumption) | (have e_ := (Kd.N_reads' HO_5.out).1; omega))
                          obtain ⟨ua212_0, uc212_0, rfl, ul212_0, ge212_0⟩ := Kd.FK_slice_open hMe212
                          have hv212_0 := hcc212 0 _ rfl
                          rw [Nat.add_zero, show ((Kd.slice 2 (Kd.int .i64))).sz = 1 from rfl, Nat.mul_one] at hv212_0
                          replace hv212_0 := Option.some.inj (hv212_0.symm.trans hx212_0)
                          injection hv212_0 with hva_ hvn_ hvc_
                          rw [hva_] at ge212_0
                          rw [hvc_] at ul212_0
                          have HL212_0 := Aside0.mk (show Kd.V (Kd.int .i64) 2 _ w.heap.size _ _ (rd_L4 t206 a0) from Kd.V_mk ul212_0 ge212_0)
                          clear hva_ hvn_ hvc_ ge212_0 ul212_0
                          clear hcc212 hce212
                          have HR212_0 := Aside0.mk hi212_0
                          have HC212_0 := Aside0.mk hl212_0
                          clear hi212_0 hl212_0
                          replace p212 := eq_true p212
                          replace q212 := eq_true q212
                          have p213 : 0 ≤ (x18_1 : Int) := of_decide_eq_true (by first | (with_reducible assumption) | assumption)
                          have q213 : x18_1 < ((rd_L4 t206 a0).length : Int) := of_decide_eq_true (by first | (with_reducible assumption) | assumption)
                          obtain ⟨ad213, e213, hx213_0⟩ := Kd.at_int (by repeat (first | (with_reducible exact HR212_0.out) | (with_reducible refine Kd.C_alloc ?_ _) | (with_reducible refine Kd.C_drewN ?_ _) | (with_reducible refine Kd.C_drew ?_) | exact HR212_0.out)) x18_1 p213 q213
                          cases e213
                          replace p213 := eq_true p213
                          replace q213 := eq_true q213
                          have p214 : 0 ≤ ((ji14) : Int) := of_decide_eq_true (by first | (with_reducible assumption) | assumption)
                          have q214 : (ji14) < (t206.length : Int) := of_decide_eq_true (by first | (with_reducible assumption) | assumption)
                          obtain ⟨ad214, A214_0, c214_0, e214, hx214_0, hl214_0, hi214_0⟩ := at_L4 (Kd.N_reads' HO_5.out).2.2 (ji14) p214 q214
                          obtain rfl : ad212 = ad214 := (by injection e214)
                          obtain ⟨ce214, hce214, hMe214, hcc214⟩ := Kd.N_get HO_5.out [] (ji14) p214 (by first | exact q214 | exact of_decide_eq_true (by first | (with_reducible assumption) | assumption) | (have e_ := (Kd.N_reads' HO_5.out).1; omega))
                          obtain ⟨ua214_0, uc214_0, rfl, ul214_0, ge214_0⟩ := Kd.FK_slice_open hMe214
                          have hv214_0 := hcc214 0 _ rfl
                          rw [Nat.add_zero, show ((Kd.slice 2 (Kd.int .i64))).sz = 1 from rfl, Nat.mul_one] at hv214_0
                          replace hv214_0 := Option.some.inj (hv214_0.symm.trans hx214_0)
                          injection hv214_0 with hva_ hvn_ hvc_
                          rw [hva_] at ge214_0
                          rw [hvc_] at ul214_0
                          have HL214_0 := Aside0.mk (show Kd.V (Kd.int .i64) 2 _ w.heap.size _ _ (rd_L4 t206 (ji14)) from Kd.V_mk ul214_0 ge214_0)
                          clear hva_ hvn_ hvc_ ge214_0 ul214_0
                          clear hcc214 hce214
                          have HR214_0 := Aside0.mk hi214_0
                          have HC214_0 := Aside0.mk hl214_0
                          clear hi214_0 hl214_0
                          replace p214 := eq_true p214
                          replace q214 := eq_true q214
                          have p215 : 0 ≤ (x18_1 : Int) := of_decide_eq_true (by first | (with_reducible assumption) | assumption)
                          have q215 : x18_1 < ((rd_L4 t206 (ji14)).length : Int) := of_decide_eq_true (by first | (with_reducible assumption) | assumption)
                          obtain ⟨ad215, e215, hx215_0⟩ := Kd.at_int (by repeat (first | (with_reducible exact HR214_0.out) | (with_reducible refine Kd.C_alloc ?_ _) | (with_reducible refine Kd.C_drewN ?_ _) | (with_reducible refine Kd.C_drew ?_) | exact HR214_0.out)) x18_1 p215 q215
                          cases e215
                          replace p215 := eq_true p215
                          replace q215 := eq_true q215
                          go_wp2
                          repeat (go_quiet (fail); try go_wp2)
                          go_roundg k1
                          case measure => have := HK1.out; omega
                          case rel => exact ⟨(wrap64 (x18_1 + 1)), (by first | rfl | (simp; done) | (simp [*]; done)), H', ⟨by have := HK1.out; omega⟩, ⟨by (with_reducible repeat (first | apply Kd.N_alloc | apply Kd.N_drewN | apply Kd.N_drew)); exact HO_5.out⟩, ⟨by (with_reducible repeat (first | apply Kd.N_alloc | apply Kd.N_drewN | apply Kd.N_drew)); exact HO_6.out⟩, ⟨by repeat (first | (with_reducible first | exact HB.out | apply below_alloc | apply pw_below_drewN | apply below_drew1) | exact HB.out)⟩⟩
                      · rw [if_neg c17] at H
                        exact absurd H (by simp)
                    · rw [if_neg c16] at H
                      exact absurd H (by simp)
                  · rw [if_neg c15] at H
                    exact absurd H (by simp)
                · rw [if_neg c13] at H
                  exact absurd H (by simp)
              · rw [if_neg c12] at H
                exact absurd H (by simp)
            · rw [if_neg c11] at H
              exact absurd H (by simp)
          · rw [if_neg c10] at H
            exact absurd H (by simp)
        · rw [if_neg c9] at H
          have c9b0 : decide (x18_1 < a0) = false := decide_eq_false c9
          clear c9
          obtain rfl := Option.some.inj H
          go_wp2
          repeat (go_quiet (fail); try go_wp2)
          go_ret
          exact ⟨_, by first | rfl | (simp [errW_none, errW_some] <;> rfl) | (simp [*, errW_none, errW_some] <;> rfl), by first | exact Kd.R_nil _ _ _ _ _ | exact Kd.N_nil _ _ _ _ _ | exact Kd.V_nil _ _ _ _ _ | exact Kd.Q_nil _ _ _ _ _ | exact Kd.S_nil _ _ _ _ _, by repeat (first | (with_reducible first | exact HB.out | apply below_alloc | apply pw_below_drewN | apply below_drew1) | exact HB.out)⟩

/-! ### merkhetlaw16_fixed: function 30 -/
def merkhetlaw16_fixed.f (k : Nat)  : Option (Bool) := (some (([(⟨0, 1, (-7), (⟨0, 0⟩ : S46), false⟩ : S48), (⟨1, 0, 6, (⟨0, 0⟩ : S46), false⟩ : S48)] : List (S48)) : List (S48))).bind fun y222 => ((loop_Of.f k 2 y222).bind fun t225 => ((merkhetref14_Same.f k t225 y222).bind fun t228 => (some t228)))
theorem merkhetlaw16_fixed.mono : ∀ k, LeO (merkhetlaw16_fixed.f k ) (merkhetlaw16_fixed.f (k + 1) ) := by
  intro  k
  unfold merkhetlaw16_fixed.f
  repeat' first
      | (with_reducible exact loop_Of.mono _ _ _)
      | (with_reducible exact merkhetref14_Same.mono _ _ _)
      | (with_reducible exact LeO.refl _)
      | (with_reducible exact LeO.none _)
      | (with_reducible refine LeO.ite ?_ ?_)
      | (with_reducible refine LeO.bind ?_ (fun _ => ?_))
      | exact loop_Of.mono _ _ _
      | exact merkhetref14_Same.mono _ _ _
      | exact LeO.none _
      | refine LeO.ite ?_ ?_
      | refine LeO.bind ?_ (fun _ => ?_)
set_option maxHeartbeats 8000000 in
set_option maxRecDepth 100000 in
theorem merkhetlaw16_fixed.calls (k : Nat)  (r : Bool) (w : World) (h : merkhetlaw16_fixed.f k  = some r) :
    Calls Try.prog 30 #[] w fun e w' => e = .returned (.bool r) ∧ Below w.heap.size w w' := by
  have hu48 := Try.underlying48
  have HB := Aside0.mk (Below.refl w.heap.size w)
  have H : ((some (([(⟨0, 1, (-7), (⟨0, 0⟩ : S46), false⟩ : S48), (⟨1, 0, 6, (⟨0, 0⟩ : S46), false⟩ : S48)] : List (S48)) : List (S48))).bind fun y222 => ((loop_Of.f k 2 y222).bind fun t225 => ((merkhetref14_Same.f k t225 y222).bind fun t228 => (some t228)))) = some r := h
  clear h
  obtain ⟨y222, hy222⟩ : ∃ y_ : List (S48), y_ = (([(⟨0, 1, (-7), (⟨0, 0⟩ : S46), false⟩ : S48), (⟨1, 0, 6, (⟨0, 0⟩ : S46), false⟩ : S48)] : List (S48))) := ⟨_, rfl⟩
  replace H : ((loop_Of.f k 2 y222).bind fun t225 => ((merkhetref14_Same.f k t225 y222).bind fun t228 => (some t228))) = some r := by first | (rw [hy222]; with_reducible exact H) | (have H2_ := (Option.bind_some _ _).symm.trans H; rw [hy222]; with_reducible exact H2_) | (have H2_ := (Option.bind_some _ _).symm.trans H; with_reducible exact H2_) | with_reducible exact H | (rw [hy222]; exact H) | exact H
  have Ny222 := Aside0.mk hy222
  clear hy222
  replace H := Option.bind_eq_some_iff.mp H
  obtain ⟨t225, A10, H⟩ := H
  replace H : ((merkhetref14_Same.f k t225 y222).bind fun t228 => (some t228)) = some r := H
  have A1 := Aside0.mk A10
  clear A10
  replace H := Option.bind_eq_some_iff.mp H
  obtain ⟨t228, A20, H⟩ := H
  replace H : (some t228) = some r := H
  have A2 := Aside0.mk A20
  clear A20
  obtain rfl := Option.some.inj H
  go_enter Try.func30, Try.ntmps30
  go_wp2_with (first | ((with_reducible refine gate_dst (N := 4) rfl ?_); refine Kd.R_lit k48 _ 48 ?hg (N := 4) ?hd (xs := ([(⟨0, 1, (-7), (⟨0, 0⟩ : S46), false⟩ : S48), (⟨1, 0, 6, (⟨0, 0⟩ : S46), false⟩ : S48)] : List (S48))) (inner := [.int .i64 0, .int .i64 1, .int .i64 (-7), .int .i64 0, .int .i64 0, .bool false, .int .i64 1, .int .i64 0, .int .i64 6, .int .i64 0, .int .i64 0, .bool false]) (ok := fun _ => True) (okp := fun _ => True) ?hr ?hp (fun _ hk => hk) trivial (Below.refl _ _) (Nat.le_refl _) (by simp) ?_; (case hd => rfl); (case hg => rfl); (case hr => first | (go_simp; done) | (go_simp; rfl)); (case hp => exact (Reps.c6 (show Kd.M k48 _ _ _ (⟨0, 1, (-7), (⟨0, 0⟩ : S46), false⟩ : S48) [.int .i64 0, .int .i64 1, .int .i64 (-7), .int .i64 0, .int .i64 0, .bool false] from (k48_mkM _ _ _ (⟨0, 1, (-7), (⟨0, 0⟩ : S46), false⟩ : S48) )) (Reps.c6 (show Kd.M k48 _ _ _ (⟨1, 0, 6, (⟨0, 0⟩ : S46), false⟩ : S48) [.int .i64 1, .int .i64 0, .int .i64 6, .int .i64 0, .int .i64 0, .bool false] from (k48_mkM _ _ _ (⟨1, 0, 6, (⟨0, 0⟩ : S46), false⟩ : S48) )) (Reps.none _ _)))); intro v223 w3 ho4 hb hg_ hnew_; clear hg_ hnew_; (first | rw [← Ny222.out] at ho4 | (simp only [Int.reduceToNat] at ho4; rw [← Ny222.out] at ho4)); have n0_ := Aside0.mk (Kd.R_lower ho4 (below_size (by repeat (first | (with_reducible first | exact HB.out | apply below_alloc | apply pw_below_drewN | apply below_drew1) | exact HB.out)))); have n1_ := Aside0.mk (below_step (by repeat (first | (with_reducible first | exact HB.out | apply below_alloc | apply pw_below_drewN | apply below_drew1) | exact HB.out)) hb); clear HB; have HO224 := n0_; have HB := n1_; clear n0_ n1_; clear hb ho4; obtain ⟨Ao5, co5, eo5⟩ := Kd.R_slice HO224.out; subst eo5) | ((with_reducible refine gate_callee (f := 32) rfl ?_); refine goesL_ (some 6) rfl rfl Try.func32 (by kernel_rfl) rfl #[.int .i64 2, .slice Ao5 y222.length co5] rfl (by (try simp only [List.map_toArray, List.map_cons, List.map_nil]); first | done | rfl | (simp only [List.length_drop, List.length_take]; rfl)) ?_; (with_reducible refine (loop_Of.calls k 2 _ _ y222 t225 _ ?side1 ?side2 A1.out).mono ?_); (case side1 => repeat (first | exact (Kd.R_reads' HO224.out).2.2 | (with_reducible refine Kd.C_alloc ?_ _) | (with_reducible refine Kd.C_drewN ?_ _) | (with_reducible refine Kd.C_drew ?_))); (case side2 => exact (Kd.R_reads' HO224.out).2.1); rintro e w6 ⟨v226, rfl, ho0, hb⟩; refine ⟨_, rfl, ?_⟩; have n0_ := Aside0.mk (Kd.R_elder' (by (with_reducible repeat (first | apply Kd.R_alloc | apply Kd.R_drewN | apply Kd.R_drew)); exact HO224.out) (Kd.R_base ho0) hb); have n1_ := Aside0.mk (Kd.R_lower (Kd.R_new' ho0 (Kd.R_lt (by (with_reducible repeat (first | apply Kd.R_alloc | apply Kd.R_drewN | apply Kd.R_drew)); exact HO224.out))) (below_size (by repeat (first | (with_reducible first | exact HB.out | apply below_alloc | apply pw_below_drewN | apply below_drew1) | exact HB.out)))); have n2_ := Aside0.mk (below_step (by repeat (first | (with_reducible first | exact HB.out | apply below_alloc | apply pw_below_drewN | apply below_drew1) | exact HB.out)) hb); clear HO224; clear HB; have HO224 := n0_; have HO227 := n1_; have HB := n2_; clear n0_ n1_ n2_; (try clear hb); (try clear hb2); (try clear hk); (try clear hi); (try clear ho0); obtain ⟨Ao7, co7, eo7⟩ := Kd.R_slice HO227.out; subst eo7) | ((with_reducible refine gate_callee (f := 31) rfl ?_); refine goesL_ (some 8) rfl rfl Try.func31 (by kernel_rfl) rfl #[.slice Ao7 t225.length co7, .slice Ao5 y222.length co5] rfl (by (try simp only [List.map_toArray, List.map_cons, List.map_nil]); first | done | rfl | (simp only [List.length_drop, List.length_take]; rfl)) ?_; (with_reducible refine (merkhetref14_Same.calls k _ _ t225 _ _ y222 t228 _ ?side1 ?side2 ?side3 ?side4 A2.out).mono ?_); (case side1 => repeat (first | exact (Kd.R_reads' HO227.out).2.2 | (with_reducible refine Kd.C_alloc ?_ _) | (with_reducible refine Kd.C_drewN ?_ _) | (with_reducible refine Kd.C_drew ?_))); (case side2 => exact (Kd.R_reads' HO227.out).2.1); (case side3 => repeat (first | exact (Kd.R_reads' HO224.out).2.2 | (with_reducible refine Kd.C_alloc ?_ _) | (with_reducible refine Kd.C_drewN ?_ _) | (with_reducible refine Kd.C_drew ?_))); (case side4 => exact (Kd.R_reads' HO224.out).2.1); rintro e w' ⟨rfl, ⟨nd, rfl⟩⟩; refine ⟨_, rfl, ?_⟩))
  go_ret
  exact ⟨by first | rfl | (simp [errW_none, errW_some] <;> rfl) | (simp [*, errW_none, errW_some] <;> rfl), by repeat (first | (with_reducible first | exact HB.out | apply below_alloc | apply pw_below_drewN | apply below_drew1) | exact HB.out)⟩

end Go.Proofs.Ytacjlaiddnfpdaa.LD
