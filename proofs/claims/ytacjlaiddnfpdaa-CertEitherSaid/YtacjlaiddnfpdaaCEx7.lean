-- WRITTEN FOR THIS CLAIM by wip/tools/mp.py, a program of this project that drives the kit's print; the functions that the print does not take are this project's own texts.
import Derived.Test.YtacjlaiddnfpdaaCEx0
import Derived.Test.YtacjlaiddnfpdaaCEx5
import Derived.Test.YtacjlaiddnfpdaaCEx6
namespace Go.Proofs.Ytacjlaiddnfpdaa.CE
open Go.RowKit Go.Proofs.YtacjlaiddnfpdaaW.PrintWords Go.Proofs.YtacjlaiddnfpdaaW.PrintLast Go.Proofs.YtacjlaiddnfpdaaW.PrintMore
attribute [local go_sem] max2_int min2_int max_two min_two max_three min_three max_four min_four   -- for this text's walks alone
set_option linter.unusedVariables false
set_option linter.unusedSimpArgs false

/-! ### api_Edge_62: function 62 -/
def api_Edge_62.f (l0 : List S48) : Option (List S48) := if l0.length ≤ 100000 then some l0.reverse else none
theorem api_Edge_62_at {w : World} {base g n c : Nat} {ok : Nat → Prop} {l : List S48} (h : Kd.R k48 48 w base ok (.slice (some ⟨g, 0, none⟩) n c) l) (i : Nat) (hi : i < n) (x : S48) (hx : rd_T48 l (i : Int) = x) : w.cell? ⟨g, i * 6, none⟩ = some (.int .i64 x.f0) ∧ w.cell? ⟨g, i * 6 + 1, none⟩ = some (.int .i64 x.f1) ∧ w.cell? ⟨g, i * 6 + 2, none⟩ = some (.int .i64 x.f2) ∧ w.cell? ⟨g, i * 6 + 3, none⟩ = some (.int .i64 x.f3.f0) ∧ w.cell? ⟨g, i * 6 + 4, none⟩ = some (.int .i64 x.f3.f1) ∧ w.cell? ⟨g, i * 6 + 5, none⟩ = some (.bool x.f4) := by
  obtain ⟨cs, hl, hM, hc, _⟩ := Kd.R_elem h ⟨0, 0, 0, ⟨0, 0⟩, false⟩ (i : Int) (by omega) (by omega)
  have e := k48_openM hM
  have hx2 : l.getD ((i : Int)).toNat ⟨0, 0, 0, ⟨0, 0⟩, false⟩ = x := hx
  rw [hx2] at e
  subst e
  rw [show (k48).sz = 6 from rfl, Int.toNat_natCast] at hc
  exact ⟨hc 0 _ rfl, hc 1 _ rfl, hc 2 _ rfl, hc 3 _ rfl, hc 4 _ rfl, hc 5 _ rfl⟩
set_option maxHeartbeats 8000000 in
set_option maxRecDepth 100000 in
theorem api_Edge_62.calls (v : Value) (l0 : List S48) (r : List S48) (ok : Nat → Prop) (w0 w : World) (hB : Below w0.heap.size w0 w) (ho : Kd.R k48 48 w w0.heap.size ok v l0) (h : api_Edge_62.f l0 = some r) :
    Calls Try.prog 62 #[v] w fun e w' => e = .returned (.tuple #[]) ∧ Kd.R k48 48 w' w0.heap.size ok v r ∧ Below w0.heap.size w0 w' := by
  have hu_ := Try.underlying48
  unfold api_Edge_62.f at h
  by_cases hl : l0.length ≤ 100000
  case neg => rw [if_neg hl] at h; cases h
  rw [if_pos hl] at h
  obtain rfl := Option.some.inj h
  clear h
  obtain ⟨A0, c0, rfl⟩ := Kd.R_slice ho
  have HO := Aside0.mk (show Kd.R k48 48 w w0.heap.size ok (.slice A0 l0.length c0) (Go.Proofs.Ytacjlaiddnfpdaa.H.revS ⟨0, 0, 0, ⟨0, 0⟩, false⟩ l0 0) by rw [Go.Proofs.Ytacjlaiddnfpdaa.H.revS_zero]; exact ho)
  have HB := Aside0.mk hB
  have HFORM := Aside0.mk (fun hp : 0 < l0.length => by
    obtain ⟨g, cap, e, _⟩ := Kd.R_form ho hp
    exact (⟨g, by injection e⟩ : ∃ g, A0 = some ⟨g, 0, none⟩))
  clear ho hB
  go_enter Try.func62, Try.ntmps62
  go_wp2_with (fail)
  go_loopg [2, 3] l0.length (fun d v2 v3 wr => ∃ (i : Nat), i + d = l0.length ∧ v2 = .int .i64 i ∧ v3 = .int .i64 ((l0.length : Int) - 1 - i) ∧ Aside0 (2 * i ≤ l0.length + 1) ∧ Aside0 (Kd.R k48 48 wr w0.heap.size ok (.slice A0 l0.length c0) (Go.Proofs.Ytacjlaiddnfpdaa.H.revS ⟨0, 0, 0, ⟨0, 0⟩, false⟩ l0 i)) ∧ Aside0 (Below w0.heap.size w0 wr))
  case atStart => exact ⟨0, by omega, rfl, by first | go_num | (congr 1; omega), ⟨by omega⟩, HO, HB⟩
  case round =>
    clear HO HB
    obtain ⟨i, hi, rfl, rfl, HI, HO, HB⟩ := hrel
    by_cases hlt : 2 * i + 1 < l0.length
    · have hltz : (i : Int) < (l0.length : Int) - 1 - i := by omega
      obtain ⟨g, rfl⟩ := HFORM.out (by omega)
      obtain ⟨x, hx⟩ : ∃ x, rd_T48 (Go.Proofs.Ytacjlaiddnfpdaa.H.revS ⟨0, 0, 0, ⟨0, 0⟩, false⟩ l0 i) (i : Int) = x := ⟨_, rfl⟩
      obtain ⟨y, hy⟩ : ∃ y, rd_T48 (Go.Proofs.Ytacjlaiddnfpdaa.H.revS ⟨0, 0, 0, ⟨0, 0⟩, false⟩ l0 i) ((l0.length - 1 - i : Nat) : Int) = y := ⟨_, rfl⟩
      obtain ⟨j, hj⟩ : ∃ j, j = l0.length - 1 - i := ⟨_, rfl⟩
      have hjz : (l0.length : Int) - 1 - i = (j : Int) := by omega
      have hjl : j < l0.length := by omega
      have hjlz : (j : Int) < (l0.length : Int) := by omega
      have hilz : (i : Int) < (l0.length : Int) := by omega
      rw [← hj] at hy
      have HST := Aside0.mk (show ((Go.Proofs.Ytacjlaiddnfpdaa.H.revS ⟨0, 0, 0, ⟨0, 0⟩, false⟩ l0 i).set i y).set j x = Go.Proofs.Ytacjlaiddnfpdaa.H.revS ⟨0, 0, 0, ⟨0, 0⟩, false⟩ l0 (i + 1) by
        have h_ := Go.Proofs.Ytacjlaiddnfpdaa.H.revS_step ⟨0, 0, 0, ⟨0, 0⟩, false⟩ l0 i hlt
        rw [← hj] at h_
        rw [← hx, ← hy]
        exact h_)
      obtain ⟨h0, h1, h2, h3, h4, h5⟩ := api_Edge_62_at HO.out i (show i < l0.length by omega) x hx
      obtain ⟨g0, g1, g2, g3, g4, g5⟩ := api_Edge_62_at HO.out j (show j < l0.length from hjl) y hy
      have HJ := Aside0.mk hj
      clear hx hy hj
      rw [hjz] at hltz ⊢
      have HJZ := Aside0.mk hjz
      clear hjz
      go_wp2_with (fail)
      refine start_ (n := 16) (S := fun w' => w'.cell? ⟨g, i * 6, none⟩ = some (.int .i64 x.f0) ∧ w'.cell? ⟨g, i * 6 + 1, none⟩ = some (.int .i64 x.f1) ∧ w'.cell? ⟨g, i * 6 + 2, none⟩ = some (.int .i64 x.f2) ∧ w'.cell? ⟨g, i * 6 + 3, none⟩ = some (.int .i64 x.f3.f0) ∧ w'.cell? ⟨g, i * 6 + 4, none⟩ = some (.int .i64 x.f3.f1) ∧ w'.cell? ⟨g, i * 6 + 5, none⟩ = some (.bool x.f4) ∧ w'.cell? ⟨g, j * 6, none⟩ = some (.int .i64 y.f0) ∧ w'.cell? ⟨g, j * 6 + 1, none⟩ = some (.int .i64 y.f1) ∧ w'.cell? ⟨g, j * 6 + 2, none⟩ = some (.int .i64 y.f2) ∧ w'.cell? ⟨g, j * 6 + 3, none⟩ = some (.int .i64 y.f3.f0) ∧ w'.cell? ⟨g, j * 6 + 4, none⟩ = some (.int .i64 y.f3.f1) ∧ w'.cell? ⟨g, j * 6 + 5, none⟩ = some (.bool y.f4)) (ds := [13, 15]) #[false, false, false, false, false, false, false, false, false, false, false, false, false, false, false, false] (by kernel_rfl) rfl rfl ⟨h0, h1, h2, h3, h4, h5, g0, g1, g2, g3, g4, g5⟩ (fun hHeld => ?_)
      refine pure_ (i := 0) (N := some 14) (v := ?_) (a' := ?_) #[true, false, false, false, false, false, false, false, false, false, false, false, false, false, false, false] rfl rfl (by kernel_rfl) (fun _ _ _ h => h) (Or.inl ⟨by rfl, ?_⟩) ?_ ?_
      rotate_left
      · intro w'
        go_simp
        with_reducible rfl
      rotate_left
      · simp only [Act.put, List.setIfInBounds_toArray, List.set_cons_zero, List.set_cons_succ, i64_w, i32_w]
        rfl
      refine pure_ (i := 1) (N := some 15) (v := ?_) (a' := ?_) #[true, true, false, false, false, false, false, false, false, false, false, false, false, false, false, false] rfl rfl (by kernel_rfl) (fun _ _ _ h => h) (Or.inl ⟨by rfl, ?_⟩) ?_ ?_
      rotate_left
      · intro w'
        go_simp
        with_reducible rfl
      rotate_left
      · simp only [Act.put, List.setIfInBounds_toArray, List.set_cons_zero, List.set_cons_succ, i64_w, i32_w]
        rfl
      refine pure_ (i := 2) (N := some 16) (v := ?_) (a' := ?_) #[true, true, true, false, false, false, false, false, false, false, false, false, false, false, false, false] rfl rfl (by kernel_rfl) (fun _ _ _ h => h) (Or.inl ⟨by rfl, ?_⟩) ?_ ?_
      rotate_left
      · intro w'
        go_simp
        with_reducible rfl
      rotate_left
      · simp only [Act.put, List.setIfInBounds_toArray, List.set_cons_zero, List.set_cons_succ, i64_w, i32_w]
        rfl
      refine pure_ (i := 3) (N := some 17) (v := ?_) (a' := ?_) #[true, true, true, true, false, false, false, false, false, false, false, false, false, false, false, false] rfl rfl (by kernel_rfl) (fun _ _ _ h => h) (Or.inl ⟨by rfl, ?_⟩) ?_ ?_
      rotate_left
      · intro w'
        go_simp
        with_reducible rfl
      rotate_left
      · simp only [Act.put, List.setIfInBounds_toArray, List.set_cons_zero, List.set_cons_succ, i64_w, i32_w]
        rfl
      refine pure_ (i := 4) (N := some 18) (v := ?_) (a' := ?_) #[true, true, true, true, true, false, false, false, false, false, false, false, false, false, false, false] rfl rfl (by kernel_rfl) (fun _ _ _ h => h) (Or.inl ⟨by rfl, ?_⟩) ?_ ?_
      rotate_left
      · intro w'
        go_simp
        with_reducible rfl
      rotate_left
      · simp only [Act.put, List.setIfInBounds_toArray, List.set_cons_zero, List.set_cons_succ, i64_w, i32_w]
        rfl
      refine pure_ (i := 5) (N := some 19) (v := ?_) (a' := ?_) #[true, true, true, true, true, true, false, false, false, false, false, false, false, false, false, false] rfl rfl (by kernel_rfl) (fun _ _ _ h => h) (Or.inl ⟨by rfl, ?_⟩) ?_ ?_
      rotate_left
      · intro w'
        go_simp
        with_reducible rfl
      rotate_left
      · simp only [Act.put, List.setIfInBounds_toArray, List.set_cons_zero, List.set_cons_succ, i64_w, i32_w]
        rfl
      refine pure_ (i := 6) (N := some 20) (v := ?_) (a' := ?_) #[true, true, true, true, true, true, true, false, false, false, false, false, false, false, false, false] rfl rfl (by kernel_rfl) (fun _ _ _ h => h) (Or.inl ⟨by rfl, ?_⟩) ?_ ?_
      rotate_left
      · intro w'
        go_simp
        with_reducible rfl
      rotate_left
      · simp only [Act.put, List.setIfInBounds_toArray, List.set_cons_zero, List.set_cons_succ, i64_w, i32_w]
        rfl
      refine pure_ (i := 8) (N := some 22) (v := ?_) (a' := ?_) #[true, true, true, true, true, true, true, false, true, false, false, false, false, false, false, false] rfl rfl (by kernel_rfl) (fun _ _ _ h => h) (Or.inl ⟨by rfl, ?_⟩) ?_ ?_
      rotate_left
      · intro w'
        go_simp
        with_reducible rfl
      rotate_left
      · simp only [Act.put, List.setIfInBounds_toArray, List.set_cons_zero, List.set_cons_succ, i64_w, i32_w]
        rfl
      refine pure_ (i := 9) (N := some 23) (v := ?_) (a' := ?_) #[true, true, true, true, true, true, true, false, true, true, false, false, false, false, false, false] rfl rfl (by kernel_rfl) (fun _ _ _ h => h) (Or.inl ⟨by rfl, ?_⟩) ?_ ?_
      rotate_left
      · intro w'
        go_simp
        with_reducible rfl
      rotate_left
      · simp only [Act.put, List.setIfInBounds_toArray, List.set_cons_zero, List.set_cons_succ, i64_w, i32_w]
        rfl
      refine pure_ (i := 10) (N := some 24) (v := ?_) (a' := ?_) #[true, true, true, true, true, true, true, false, true, true, true, false, false, false, false, false] rfl rfl (by kernel_rfl) (fun _ _ _ h => h) (Or.inl ⟨by rfl, ?_⟩) ?_ ?_
      rotate_left
      · intro w'
        go_simp
        with_reducible rfl
      rotate_left
      · simp only [Act.put, List.setIfInBounds_toArray, List.set_cons_zero, List.set_cons_succ, i64_w, i32_w]
        rfl
      refine take_ (i := 7) (N := some 21) (v := ?_) (a' := ?_) #[true, true, true, true, true, true, true, true, true, true, true, false, false, false, false, false] rfl rfl (by kernel_rfl) (fun _ _ _ h => h) (Or.inl ⟨by rfl, ?_⟩) hHeld ?_ ?_
      rotate_left
      · rintro w' ⟨s0, s1, s2, s3, s4, s5, s6, s7, s8, s9, s10, s11⟩
        go_simp
        with_reducible rfl
      rotate_left
      · simp only [Act.put, List.setIfInBounds_toArray, List.set_cons_zero, List.set_cons_succ, i64_w, i32_w]
        rfl
      refine take_ (i := 11) (N := some 25) (v := ?_) (a' := ?_) #[true, true, true, true, true, true, true, true, true, true, true, true, false, false, false, false] rfl rfl (by kernel_rfl) (fun _ _ _ h => h) (Or.inl ⟨by rfl, ?_⟩) hHeld ?_ ?_
      rotate_left
      · rintro w' ⟨s0, s1, s2, s3, s4, s5, s6, s7, s8, s9, s10, s11⟩
        go_simp
        with_reducible rfl
      rotate_left
      · simp only [Act.put, List.setIfInBounds_toArray, List.set_cons_zero, List.set_cons_succ, i64_w, i32_w]
        rfl
      refine pure_ (i := 12) (N := some 26) (v := ?_) (a' := ?_) #[true, true, true, true, true, true, true, true, true, true, true, true, true, false, false, false] rfl rfl (by kernel_rfl) (fun _ _ _ h => h) (Or.inl ⟨by rfl, ?_⟩) ?_ ?_
      rotate_left
      · intro w'
        go_simp
        with_reducible rfl
      rotate_left
      · simp only [Act.put, List.setIfInBounds_toArray, List.set_cons_zero, List.set_cons_succ, i64_w, i32_w]
        rfl
      refine last_ (i := 13) (N := none) #[true, true, true, true, true, true, true, true, true, true, true, true, true, true, false, false] rfl rfl (by kernel_rfl) (by decide) (fun K hK => ?_)
      refine Go.Proofs.Ytacjlaiddnfpdaa.H.R_store_step k48 (w0 := w0) (W := wr.drew) w0.heap.size (by rfl) rfl 48 (.tmp 26) (.tmp 21) rfl 48 ((i : Nat) : Int) (Go.Proofs.Ytacjlaiddnfpdaa.H.revS ⟨0, 0, 0, ⟨0, 0⟩, false⟩ l0 i) y (.agg #[.int .i64 y.f0, .int .i64 y.f1, .int .i64 y.f2, .int .i64 y.f3.f0, .int .i64 y.f3.f1, .bool y.f4]) [.int .i64 y.f0, .int .i64 y.f1, .int .i64 y.f2, .int .i64 y.f3.f0, .int .i64 y.f3.f1, .bool y.f4] ok (by rfl) (by rfl) rfl (by kernel_rfl) (by intro q hq; simp at hq; rcases hq with rfl | rfl | rfl | rfl | rfl | rfl <;> rfl) (Kd.R_drew HO.out) (by omega) (by omega) rfl (k48_mkM _ _ _ _) (below_drew1 HB.out) (HB.out.size) ⟨0, 0, 0, ⟨0, 0⟩, false⟩ ?_
      intro w3 ho3 hb3 hg3
      have HO3 := Aside0.mk ho3
      have HB3 := Aside0.mk hb3
      clear ho3 hb3 hg3
      refine hK.out _ _ ?_
      clear hK K
      refine pure_ (i := 14) (N := some 27) (v := ?_) (a' := ?_) #[true, true, true, true, true, true, true, true, true, true, true, true, true, true, true, false] rfl rfl (by kernel_rfl) (fun _ _ _ h => h) (Or.inl ⟨by rfl, ?_⟩) ?_ ?_
      rotate_left
      · intro w'
        go_simp
        with_reducible rfl
      rotate_left
      · simp only [Act.put, List.setIfInBounds_toArray, List.set_cons_zero, List.set_cons_succ, i64_w, i32_w]
        rfl
      refine last_ (i := 15) (N := none) #[true, true, true, true, true, true, true, true, true, true, true, true, true, true, true, true] rfl rfl (by kernel_rfl) (by decide) (fun K hK => ?_)
      refine Go.Proofs.Ytacjlaiddnfpdaa.H.R_store_step k48 (w0 := w0) (W := w3) w0.heap.size (by rfl) rfl 48 (.tmp 27) (.tmp 25) rfl 48 ((j : Nat) : Int) ((Go.Proofs.Ytacjlaiddnfpdaa.H.revS ⟨0, 0, 0, ⟨0, 0⟩, false⟩ l0 i).set i y) x (.agg #[.int .i64 x.f0, .int .i64 x.f1, .int .i64 x.f2, .int .i64 x.f3.f0, .int .i64 x.f3.f1, .bool x.f4]) [.int .i64 x.f0, .int .i64 x.f1, .int .i64 x.f2, .int .i64 x.f3.f0, .int .i64 x.f3.f1, .bool x.f4] ok (by rfl) (by rfl) rfl (by kernel_rfl) (by intro q hq; simp at hq; rcases hq with rfl | rfl | rfl | rfl | rfl | rfl <;> rfl) (by have h_ := HO3.out; simp only [Int.toNat_natCast] at h_; exact h_) (by omega) (by omega) rfl (k48_mkM _ _ _ _) HB3.out (HB3.out.size) ⟨0, 0, 0, ⟨0, 0⟩, false⟩ ?_
      intro w4 ho4 hb4 hg4
      have HO4 := Aside0.mk ho4
      have HB4 := Aside0.mk hb4
      clear ho4 hb4 hg4
      refine hK.out _ _ ?_
      clear hK K
      refine done_ (by kernel_rfl) ?_
      clear h0 h1 h2 h3 h4 h5 g0 g1 g2 g3 g4 g5
      go_wp2_with (fail)
      go_roundg (gk - 1)
      case measure => omega
      case rel => exact ⟨i + 1, by omega, by go_num, by have := HJZ.out; first | go_num | (congr 1; omega), ⟨by omega⟩, ⟨by rw [← HST.out]; exact HO4.out⟩, HB4⟩
    · have hltz : ¬ (i : Int) < (l0.length : Int) - 1 - i := by omega
      have HE := Aside0.mk (Go.Proofs.Ytacjlaiddnfpdaa.H.revS_end ⟨0, 0, 0, ⟨0, 0⟩, false⟩ l0 i (by omega))
      go_wp2_with (fail)
      go_end0
      exact ⟨rfl, by rw [← HE.out]; exact HO.out, HB.out⟩


/-! ### loop_back: function 47 -/
def loop_back_i (by_ : List (List Int)) (j : Nat) (v : Int) : Int := rd (rd_L8 by_ (j : Int)) v
def loop_back_go (k : Nat) (by_ : List (List Int)) (es : List S48) : Nat → Int → List Int → List S48 → Option (Int × List Int × List S48)
  | 0, _, _, _ => none
  | j + 1, v, hs, way => (slices_Contains_int_int.f k hs v).bind fun b => if b = true then some (v, hs, way) else
      if (0 ≤ v ∧ v < ((rd_L8 by_ (j : Int)).length : Int)) ∧ 0 ≤ loop_back_i by_ j v ∧ loop_back_i by_ j v < (es.length : Int) then loop_back_go k by_ es j (rd_T48 es (loop_back_i by_ j v)).f0 (hs ++ [v]) (way ++ [rd_T48 es (loop_back_i by_ j v)]) else none
def loop_back.f (k : Nat) (v : Int) (by_ : List (List Int)) (es : List S48) : Option (List S48) :=
  if by_.length ≤ 100000 ∧ es.length ≤ 100000 then (loop_back_go k by_ es by_.length v [] []).bind fun r => (slices_Index_int_int.f k r.2.1 r.1).bind fun at_ => if 0 ≤ at_ ∧ at_ ≤ (r.2.2.length : Int) then (api_Edge_61.f (r.2.2.drop at_.toNat)).bind fun out => api_Edge_62.f out else none else none
theorem loop_back_go_mono (by_ : List (List Int)) (es : List S48) (k : Nat) : ∀ j v hs way, LeO (loop_back_go k by_ es j v hs way) (loop_back_go (k + 1) by_ es j v hs way)
  | 0, _, _, _ => LeO.refl _
  | j + 1, v, hs, way => LeO.bind (slices_Contains_int_int.mono _ _ _) (fun _ => LeO.ite (LeO.refl _) (LeO.ite (loop_back_go_mono by_ es k j _ _ _) (LeO.refl _)))
theorem loop_back.mono : ∀ a0 a1 a2 k, LeO (loop_back.f k a0 a1 a2) (loop_back.f (k + 1) a0 a1 a2) := by
  intro a0 a1 a2 k
  exact LeO.ite (LeO.bind (loop_back_go_mono _ _ _ _ _ _ _) (fun _ => LeO.bind (slices_Index_int_int.mono _ _ _) (fun _ => LeO.ite (LeO.refl _) (LeO.refl _)))) (LeO.refl _)
theorem loop_back_at {w W : World} {A : Option Addr} {l : List S48} (h : Kd.C k48 w A l.length l) (i : Int) (h0 : 0 ≤ i) (hi : i < (l.length : Int)) (x : S48) (hx : rd_T48 l i = x) : ∃ ad, A = some ad ∧ ∀ W, Below w.heap.size w W → W.cell? (ad.add (i.toNat * 6)) = some (.int .i64 x.f0) ∧ W.cell? ⟨(ad.add (i.toNat * 6)).block, (ad.add (i.toNat * 6)).off + 1, none⟩ = some (.int .i64 x.f1) ∧ W.cell? ⟨(ad.add (i.toNat * 6)).block, (ad.add (i.toNat * 6)).off + 2, none⟩ = some (.int .i64 x.f2) ∧ W.cell? ⟨(ad.add (i.toNat * 6)).block, (ad.add (i.toNat * 6)).off + 3, none⟩ = some (.int .i64 x.f3.f0) ∧ W.cell? ⟨(ad.add (i.toNat * 6)).block, (ad.add (i.toNat * 6)).off + 4, none⟩ = some (.int .i64 x.f3.f1) ∧ W.cell? ⟨(ad.add (i.toNat * 6)).block, (ad.add (i.toNat * 6)).off + 5, none⟩ = some (.bool x.f4) := by
  subst hx
  obtain ⟨ad, e, h0, h1, h2, h3, h4, h5⟩ := at_T48 h i h0 hi
  exact ⟨ad, e, fun W hb => ⟨(hb.cell (World.block_lt_of_cell? w _ h0)).trans h0, (hb.cell (World.block_lt_of_cell? w _ h1)).trans h1, (hb.cell (World.block_lt_of_cell? w _ h2)).trans h2, (hb.cell (World.block_lt_of_cell? w _ h3)).trans h3, (hb.cell (World.block_lt_of_cell? w _ h4)).trans h4, (hb.cell (World.block_lt_of_cell? w _ h5)).trans h5⟩⟩
theorem loop_back_at2 {w W : World} {A : Option Addr} {l : List (List Int)} (h : Kd.C (Kd.slice 3 (Kd.int .i64)) w A l.length l) (hb : Below w.heap.size w W) (i : Nat) (hi : i < l.length) (v : Int) (hv : 0 ≤ v ∧ v < ((rd_L8 l (i : Int)).length : Int)) : ∃ ad A1 c1, A = some ad ∧ W.cell? (ad.add i) = some (.slice (some A1) (rd_L8 l (i : Int)).length c1) ∧ W.cell? (A1.add v.toNat) = some (.int .i64 (loop_back_i l i v)) := by
  obtain ⟨ad, A1, c1, e, h0, h1, h2⟩ := at_L8 h (i : Int) (by omega) (by omega)
  obtain ⟨ad2, e2, h3⟩ := Kd.at_int h2 v hv.1 hv.2
  subst e2
  simp only [Int.toNat_natCast] at h0
  exact ⟨ad, ad2, c1, e, (hb.cell (World.block_lt_of_cell? w _ h0)).trans h0, (hb.cell (World.block_lt_of_cell? w _ h3)).trans h3⟩
set_option maxHeartbeats 8000000 in
set_option maxRecDepth 100000 in
theorem loop_back.calls (k : Nat) (a0 : Int) (A1 : Option Addr) (c1 : Nat) (l1 : List (List Int)) (A2 : Option Addr) (c2 : Nat) (l2 : List S48) (r : List S48) (w : World) (hr1 : Kd.C (Kd.slice 3 (Kd.int .i64)) w A1 l1.length l1) (hc1 : l1.length ≤ c1) (hr2 : Kd.C k48 w A2 l2.length l2) (hc2 : l2.length ≤ c2) (h : loop_back.f k a0 l1 l2 = some r) :
    Calls Try.prog 47 #[.int .i64 a0, .slice A1 l1.length c1, .slice A2 l2.length c2] w fun e w' => ∃ v : Value, e = .returned v ∧ Kd.R k48 48 w' w.heap.size (fun _ => True) v r ∧ Below w.heap.size w w' := by
  have hu_ := Try.underlying48
  unfold loop_back.f at h
  by_cases cl : l1.length ≤ 100000 ∧ l2.length ≤ 100000
  case neg => rw [if_neg cl] at h; cases h
  rw [if_pos cl] at h
  obtain ⟨n1, n2⟩ := cl
  obtain ⟨⟨vE, hsE, wayE⟩, hgo, h'⟩ := Option.bind_eq_some_iff.mp h
  have HGO := Aside0.mk hgo
  have HR := Aside0.mk h'
  have HR1 := Aside0.mk hr1
  have HR2 := Aside0.mk hr2
  have HC1 := Aside0.mk hc1
  have HC2 := Aside0.mk hc2
  have HB := Aside0.mk (Below.refl w.heap.size w)
  clear hr1 hr2 hc1 hc2 h h' hgo
  go_enter Try.func47, Try.ntmps47
  go_wp2_with (fail)
  refine Go.Proofs.Ytacjlaiddnfpdaa.H.wp_scope_count 0 (fun _ _ _ => False) rfl (fun _ _ _ h => h.elim) (fun _ => ?_)
  go_wp2_with (fail)
  go_step3
  simp only [Exit.then]
  apply_assumption
  go_wp2_with (fail)
  have HRN7 := Aside0.mk (Kd.R_nil (Kd.int .i64) 3 w w.heap.size (fun _ => True))
  have HRN8 := Aside0.mk (Kd.R_nil k48 48 w w.heap.size (fun _ => True))
  go_loopg [0, 7, 8, 9] l1.length (fun d v0 v7 v8 v9 wr => ∃ (v kk : Int) (hs : List Int) (way : List S48), v0 = .int .i64 v ∧ kk = (d : Int) - 1 ∧ v9 = .int .i64 kk ∧ Aside0 (hs.length + d = l1.length) ∧ Aside0 (way.length = hs.length) ∧ Aside0 (loop_back_go k l1 l2 d v hs way = some (vE, hsE, wayE)) ∧ Aside0 (Kd.R (Kd.int .i64) 3 wr w.heap.size (fun _ => True) v7 hs) ∧ Aside0 (Kd.R k48 48 wr w.heap.size (fun _ => True) v8 way) ∧ Aside0 (Below w.heap.size w wr))
  case atStart => exact ⟨a0, _, [], [], rfl, rfl, by first | rfl | go_num, ⟨by simp⟩, ⟨rfl⟩, HGO, HRN7, HRN8, HB⟩
  case round =>
    clear HRN7 HRN8 HB HGO
    obtain ⟨v, kk, hs, way, rfl, hkk, rfl, HLS, HLW, HGO, HO7, HO8, HB⟩ := hrel
    cases gk with
    | zero => exact absurd HGO.out (by simp [loop_back_go])
    | succ d =>
    obtain rfl : kk = (d : Int) := by omega
    clear hkk
    have hg := HGO.out
    unfold loop_back_go at hg
    obtain ⟨b, hb, hg2⟩ := Option.bind_eq_some_iff.mp hg
    obtain ⟨A7, c7, e⟩ := Kd.R_slice HO7.out
    subst e
    obtain ⟨A8, c8, e⟩ := Kd.R_slice HO8.out
    subst e
    have hrd7 := Kd.R_reads' HO7.out
    have HCT := Aside0.mk (slices_Contains_int_int.calls k A7 c7 hs v b wr hrd7.2.2 hrd7.2.1 hb)
    have HG2 := Aside0.mk hg2
    have hd0 : (d : Int) ≥ 0 := by omega
    clear hg hg2 hb hrd7 HGO
    cases b with
    | true =>
      obtain ⟨rfl, rfl, rfl⟩ : v = vE ∧ hs = hsE ∧ way = wayE := by simpa using HG2.out
      clear HG2
      go_wp2_with (fail)
      refine HCT.out.mono ?_
      rintro e w2 ⟨rfl, hd⟩
      have HB2 := Aside0.mk (below_step HB.out hd.below)
      have HO72 := Aside0.mk (Kd.R_below HO7.out hd.below)
      have HO82 := Aside0.mk (Kd.R_below HO8.out hd.below)
      clear hd
      obtain ⟨at_, hat, hr2⟩ := Option.bind_eq_some_iff.mp HR.out
      by_cases ca : 0 ≤ at_ ∧ at_ ≤ (way.length : Int)
      case neg => rw [if_neg ca] at hr2; cases hr2
      rw [if_pos ca] at hr2
      obtain ⟨out, hout, hr3⟩ := Option.bind_eq_some_iff.mp hr2
      obtain ⟨ca0, ca1⟩ := ca
      have hrd7 := Kd.R_reads' HO72.out
      have HIX := Aside0.mk (slices_Index_int_int.calls k A7 c7 hs v at_ w2 hrd7.2.2 hrd7.2.1 hat)
      have HOUT := Aside0.mk hout
      have HREV := Aside0.mk hr3
      clear hr2 hr3 hout hat hrd7
      obtain ⟨i0_, hi0_, _, hsz_, _⟩ := info_parts info48
      have hcutA := cut_from (P := Try.prog) 22 48 .i64 Try.underlying22 hi0_ 6 hsz_ A8 way.length c8 at_ ca0 ca1
      clear hi0_ hsz_
      go_wp2_with (fail)
      refine HIX.out.mono ?_
      rintro e w3 ⟨rfl, hd⟩
      have HB3 := Aside0.mk (below_step HB2.out hd.below)
      have HO83 := Aside0.mk (Kd.R_below HO82.out hd.below)
      clear hd
      have hrd8 := Kd.R_reads' HO83.out
      have hC := Kd.C_drop hrd8.2.2 (show at_.toNat ≤ way.length by omega) hrd8.2.1
      rw [show (k48).sz = 6 from rfl] at hC
      generalize (if c8 = at_.toNat then A8 else A8.map (·.add (at_.toNat * 6))) = A9 at hcutA hC
      have HCL := Aside0.mk (api_Edge_61.calls A9 (c8 - at_.toNat) (way.drop at_.toNat) out w3 hC (by rw [List.length_drop]; have := hrd8.2.1; omega) HOUT.out)
      rw [List.length_drop] at HCL
      have hmax : max at_ 0 = at_ := by omega
      have hmax2 : (if at_ < 0 then 0 else at_) = at_ := by rw [if_neg (by omega)]
      clear hrd8 hC
      go_wp2_with (fail)
      refine HCL.out.mono ?_
      rintro e w4 ⟨v4, rfl, h4, hb4⟩
      have HB4 := Aside0.mk (below_step HB3.out hb4)
      have HRV := Aside0.mk (api_Edge_62.calls v4 out r (fun _ => True) w w4 HB4.out (Kd.R_lower h4 HB3.out.size) HREV.out)
      obtain ⟨A4, c4, rfl⟩ := Kd.R_slice h4
      clear h4 hb4
      go_wp2_with (fail)
      refine HRV.out.mono ?_
      rintro e w5 ⟨rfl, h5, hb5⟩
      go_wp2_with (fail)
      simp only [Exit.jump]
      go_ret
      exact ⟨_, rfl, h5, hb5⟩
    | false =>
      have hg := HG2.out
      rw [if_neg Bool.false_ne_true] at hg
      by_cases ci : (0 ≤ v ∧ v < ((rd_L8 l1 (d : Int)).length : Int)) ∧ 0 ≤ loop_back_i l1 d v ∧ loop_back_i l1 d v < (l2.length : Int)
      case neg => rw [if_neg ci] at hg; cases hg
      rw [if_pos ci] at hg
      obtain ⟨⟨ci0, ci1⟩, ci2, ci3⟩ := ci
      obtain ⟨i, hi⟩ : ∃ i, i = loop_back_i l1 d v := ⟨_, rfl⟩
      obtain ⟨x, hx⟩ : ∃ x, rd_T48 l2 i = x := ⟨_, rfl⟩
      have hdl : d < l1.length := by have := HLS.out; omega
      have hdlz : (d : Int) < (l1.length : Int) := by omega
      rw [← hi, hx] at hg
      rw [← hi] at ci2 ci3
      have HGN := Aside0.mk hg
      have HI := Aside0.mk hi
      have HX := Aside0.mk hx
      have HDL := Aside0.mk hdl
      clear hg HG2 hi hx hdl
      go_wp2_with (fail)
      refine HCT.out.mono ?_
      rintro e w2 ⟨rfl, hd⟩
      have HB2 := Aside0.mk (below_step HB.out hd.below)
      have HO72 := Aside0.mk (Kd.R_below HO7.out hd.below)
      have HO82 := Aside0.mk (Kd.R_below HO8.out hd.below)
      clear hd HCT HB HO7 HO8
      obtain ⟨adb, A10, c10, e, hx0, hx1⟩ := loop_back_at2 HR1.out HB2.out d HDL.out v ⟨ci0, ci1⟩
      cases e
      rw [← HI.out] at hx1
      have hi0 : ¬ i < 0 := by omega
      obtain ⟨ad2, e, hE⟩ := loop_back_at (W := w2) HR2.out i ci2 ci3 x HX.out
      cases e
      have HE := Aside0.mk hE
      clear hE
      obtain ⟨h0, h1, h2, h3, h4, h5⟩ := HE.out w2 HB2.out
      go_wp2_with (fail)
      refine start_ (n := 13) (S := fun w' => w'.cell? (ad2.add (i.toNat * 6)) = some (.int .i64 x.f0) ∧ w'.cell? ⟨(ad2.add (i.toNat * 6)).block, (ad2.add (i.toNat * 6)).off + 1, none⟩ = some (.int .i64 x.f1) ∧ w'.cell? ⟨(ad2.add (i.toNat * 6)).block, (ad2.add (i.toNat * 6)).off + 2, none⟩ = some (.int .i64 x.f2) ∧ w'.cell? ⟨(ad2.add (i.toNat * 6)).block, (ad2.add (i.toNat * 6)).off + 3, none⟩ = some (.int .i64 x.f3.f0) ∧ w'.cell? ⟨(ad2.add (i.toNat * 6)).block, (ad2.add (i.toNat * 6)).off + 4, none⟩ = some (.int .i64 x.f3.f1) ∧ w'.cell? ⟨(ad2.add (i.toNat * 6)).block, (ad2.add (i.toNat * 6)).off + 5, none⟩ = some (.bool x.f4)) (ds := []) #[false, false, false, false, false, false, false, false, false, false, false, false, false] (by kernel_rfl) rfl rfl ⟨h0, h1, h2, h3, h4, h5⟩ (fun hHeld => ?_)
      refine pure_ (i := 0) (N := some 32) (v := ?_) (a' := ?_) #[true, false, false, false, false, false, false, false, false, false, false, false, false] rfl rfl (by kernel_rfl) (fun _ _ _ h => h) (Or.inl ⟨by rfl, ?_⟩) ?_ ?_
      rotate_left
      · intro w'
        go_simp
        with_reducible rfl
      rotate_left
      · simp only [Act.put, List.setIfInBounds_toArray, List.set_cons_zero, List.set_cons_succ, i64_w, i32_w]
        rfl
      refine pure_ (i := 1) (N := some 33) (v := ?_) (a' := ?_) #[true, true, false, false, false, false, false, false, false, false, false, false, false] rfl rfl (by kernel_rfl) (fun _ _ _ h => h) (Or.inl ⟨by rfl, ?_⟩) ?_ ?_
      rotate_left
      · intro w'
        go_simp
        with_reducible rfl
      rotate_left
      · simp only [Act.put, List.setIfInBounds_toArray, List.set_cons_zero, List.set_cons_succ, i64_w, i32_w]
        rfl
      refine pure_ (i := 4) (N := some 36) (v := ?_) (a' := ?_) #[true, true, false, false, true, false, false, false, false, false, false, false, false] rfl rfl (by kernel_rfl) (fun _ _ _ h => h) (Or.inl ⟨by rfl, ?_⟩) ?_ ?_
      rotate_left
      · intro w'
        go_simp
        with_reducible rfl
      rotate_left
      · simp only [Act.put, List.setIfInBounds_toArray, List.set_cons_zero, List.set_cons_succ, i64_w, i32_w]
        rfl
      refine pure_ (i := 5) (N := some 37) (v := ?_) (a' := ?_) #[true, true, false, false, true, true, false, false, false, false, false, false, false] rfl rfl (by kernel_rfl) (fun _ _ _ h => h) (Or.inl ⟨by rfl, ?_⟩) ?_ ?_
      rotate_left
      · intro w'
        go_simp
        with_reducible rfl
      rotate_left
      · simp only [Act.put, List.setIfInBounds_toArray, List.set_cons_zero, List.set_cons_succ, i64_w, i32_w]
        rfl
      refine pure_ (i := 6) (N := some 38) (v := ?_) (a' := ?_) #[true, true, false, false, true, true, true, false, false, false, false, false, false] rfl rfl (by kernel_rfl) (fun _ _ _ h => h) (Or.inl ⟨by rfl, ?_⟩) ?_ ?_
      rotate_left
      · intro w'
        go_simp
        with_reducible rfl
      rotate_left
      · simp only [Act.put, List.setIfInBounds_toArray, List.set_cons_zero, List.set_cons_succ, i64_w, i32_w]
        rfl
      refine pure_ (i := 7) (N := some 39) (v := ?_) (a' := ?_) #[true, true, false, false, true, true, true, true, false, false, false, false, false] rfl rfl (by kernel_rfl) (fun _ _ _ h => h) (Or.inl ⟨by rfl, ?_⟩) ?_ ?_
      rotate_left
      · intro w'
        go_simp
        with_reducible rfl
      rotate_left
      · simp only [Act.put, List.setIfInBounds_toArray, List.set_cons_zero, List.set_cons_succ, i64_w, i32_w]
        rfl
      refine take_ (i := 8) (N := some 40) (v := ?_) (a' := ?_) #[true, true, false, false, true, true, true, true, true, false, false, false, false] rfl rfl (by kernel_rfl) (fun _ _ _ h => h) (Or.inl ⟨by rfl, ?_⟩) hHeld ?_ ?_
      rotate_left
      · rintro w' ⟨s0, s1, s2, s3, s4, s5⟩
        go_simp
        with_reducible rfl
      rotate_left
      · simp only [Act.put, List.setIfInBounds_toArray, List.set_cons_zero, List.set_cons_succ, i64_w, i32_w]
        rfl
      refine join_ (σ := Nat × Value × Nat) 3 #[true, true, true, true, true, true, true, true, true, true, false, false, false] (fun s => [(34, .slice (some ⟨s.1, 0, none⟩) 1 1), (35, s.2.1), (41, .slice (some ⟨s.2.2, 0, none⟩) 1 1)]) (fun s w' => Kd.R (Kd.int .i64) 3 w' w.heap.size (fun _ => True) s.2.1 (hs ++ [v]) ∧ Kd.R k48 48 w' w.heap.size (fun _ => True) (.slice A8 way.length c8) way ∧ w'.heap[s.2.2]? = some (.cells #[.int .i64 x.f0, .int .i64 x.f1, .int .i64 x.f2, .int .i64 x.f3.f0, .int .i64 x.f3.f1, .bool x.f4] 48 (0, 0)) ∧ Below w.heap.size w w') ?_ ?_
      rotate_left
      · intro hCont
        refine two_ (i := 2) (j := 9) (Ni := some 34) (Nj := some 41) #[true, true, true, false, true, true, true, true, true, false, false, false, false] #[true, true, false, false, true, true, true, true, true, true, false, false, false] rfl rfl rfl rfl (by kernel_rfl) (by decide) (by decide) (fun K hK => ?_) (fun K hK => ?_)
        · skip
          refine event_step (w1 := w2.drew.alloc (.cells #[.int .i64 v] 3 (0, 0))) (v := .slice (some ⟨w2.drew.heap.size, 0, none⟩) 1 1) ?hw ?hr ?_; (case hw => rfl); (case hr => first | (go_simp; done) | (go_simp; rfl))
          have HBq2 := Aside0.mk (below_alloc (below_drew1 HB2.out) (.cells #[.int .i64 v] 3 (0, 0)))
          have HO7q2 := Aside0.mk (Kd.R_alloc (Kd.R_drew HO72.out) (.cells #[.int .i64 v] 3 (0, 0)))
          have HO8q2 := Aside0.mk (Kd.R_alloc (Kd.R_drew HO82.out) (.cells #[.int .i64 v] 3 (0, 0)))
          have HNq2 := Aside0.mk (Kd.R_ne_new (Kd.R_drew HO72.out) 0)
          have HK2q2 := Aside0.mk (blk_new w2.drew (.cells #[.int .i64 v] 3 (0, 0)))
          refine hK.out _ _ ⟨(HE.out _ HBq2.out).1, (HE.out _ HBq2.out).2.1, (HE.out _ HBq2.out).2.2.1, (HE.out _ HBq2.out).2.2.2.1, (HE.out _ HBq2.out).2.2.2.2.1, (HE.out _ HBq2.out).2.2.2.2.2⟩ (fun hHeld => ?_)
          clear hK K
          refine norm_ (a' := ?_) ?_ ?_
          rotate_left
          · show Act.put _ (some 34) _ = _
            simp only [Act.put, List.setIfInBounds_toArray, List.set_cons_zero, List.set_cons_succ, i64_w, i32_w]
            rfl
          refine two_ (i := 3) (j := 9) (Ni := some 35) (Nj := some 41) #[true, true, true, true, true, true, true, true, true, false, false, false, false] #[true, true, true, false, true, true, true, true, true, true, false, false, false] rfl rfl rfl rfl (by kernel_rfl) (by decide) (by decide) (fun K hK => ?_) (fun K hK => ?_)
          · skip
            refine Kd.R_append_rows_step (Kd.int .i64) (w0 := w) (W := (w2.drew.alloc (.cells #[.int .i64 v] 3 (0, 0)))) w.heap.size ?hw (.tmp 32) (.tmp 34) 37 3 (.int .i64 0) 8 rfl Try.underlying37 info3 rfl (by decide) (by omega) _ hs [v] (some ⟨w2.drew.heap.size, 0, none⟩) 1 1 (fun _ => True) (fun _ => False) rfl rfl HO7q2.out (Go.Proofs.Ytacjlaiddnfpdaa.H.C_blk1 (Kd.int .i64) (cs := [.int .i64 v]) rfl rfl HK2q2.out) (fun _ _ h => h) (fun _ h => h.elim) (fun _ _ => trivial) HBq2.out (below_size HBq2.out) (by have := HLS.out; omega) ?_; (case hw => rfl)
            intro v35 w3 ho hb hg hat
            have HBq23 := Aside0.mk hb
            have HO7q23 := Aside0.mk ho
            have HO8q23 := Aside0.mk (Kd.R_over' HO8q2.out (Kd.R_typed HO7q2.out) (by decide) hg)
            clear ho hb hg hat
            refine hK.out _ _ ⟨(HE.out _ HBq23.out).1, (HE.out _ HBq23.out).2.1, (HE.out _ HBq23.out).2.2.1, (HE.out _ HBq23.out).2.2.2.1, (HE.out _ HBq23.out).2.2.2.2.1, (HE.out _ HBq23.out).2.2.2.2.2⟩ (fun hHeld => ?_)
            clear hK K
            refine norm_ (a' := ?_) ?_ ?_
            rotate_left
            · show Act.put _ (some 35) _ = _
              simp only [Act.put, List.setIfInBounds_toArray, List.set_cons_zero, List.set_cons_succ, i64_w, i32_w]
              rfl
            refine one_ (i := 9) (N := some 41) #[true, true, true, true, true, true, true, true, true, true, false, false, false] rfl rfl (by kernel_rfl) (by decide) (fun K hK => ?_)
            refine event_step (w1 := w3.alloc (.cells #[.int .i64 x.f0, .int .i64 x.f1, .int .i64 x.f2, .int .i64 x.f3.f0, .int .i64 x.f3.f1, .bool x.f4] 48 (0, 0))) (v := .slice (some ⟨w3.heap.size, 0, none⟩) 1 1) ?hw ?hr ?_; (case hw => rfl); (case hr => first | (go_simp; done) | (go_simp; rfl))
            have HBq239 := Aside0.mk (below_alloc HBq23.out (.cells #[.int .i64 x.f0, .int .i64 x.f1, .int .i64 x.f2, .int .i64 x.f3.f0, .int .i64 x.f3.f1, .bool x.f4] 48 (0, 0)))
            have HO7q239 := Aside0.mk (Kd.R_alloc HO7q23.out (.cells #[.int .i64 x.f0, .int .i64 x.f1, .int .i64 x.f2, .int .i64 x.f3.f0, .int .i64 x.f3.f1, .bool x.f4] 48 (0, 0)))
            have HO8q239 := Aside0.mk (Kd.R_alloc HO8q23.out (.cells #[.int .i64 x.f0, .int .i64 x.f1, .int .i64 x.f2, .int .i64 x.f3.f0, .int .i64 x.f3.f1, .bool x.f4] 48 (0, 0)))
            have HNq239 := Aside0.mk (Kd.R_ne_new HO7q23.out 0)
            have HK9q239 := Aside0.mk (blk_new w3 (.cells #[.int .i64 x.f0, .int .i64 x.f1, .int .i64 x.f2, .int .i64 x.f3.f0, .int .i64 x.f3.f1, .bool x.f4] 48 (0, 0)))
            refine hK.out _ _ ⟨(HE.out _ HBq239.out).1, (HE.out _ HBq239.out).2.1, (HE.out _ HBq239.out).2.2.1, (HE.out _ HBq239.out).2.2.2.1, (HE.out _ HBq239.out).2.2.2.2.1, (HE.out _ HBq239.out).2.2.2.2.2⟩ (fun hHeld => ?_)
            clear hK K
            refine norm_ (a' := ?_) ?_ ?_
            rotate_left
            · show Act.put _ (some 41) _ = _
              simp only [Act.put, List.setIfInBounds_toArray, List.set_cons_zero, List.set_cons_succ, i64_w, i32_w]
              rfl
            exact norm_ (by simp only [putAll, Act.put, List.setIfInBounds_toArray, List.set_cons_zero, List.set_cons_succ]) (hCont (w2.drew.heap.size, v35, w3.heap.size) _ ⟨HO7q239.out, HO8q239.out, HK9q239.out, HBq239.out⟩)
          · skip
            refine event_step (w1 := (w2.drew.alloc (.cells #[.int .i64 v] 3 (0, 0))).alloc (.cells #[.int .i64 x.f0, .int .i64 x.f1, .int .i64 x.f2, .int .i64 x.f3.f0, .int .i64 x.f3.f1, .bool x.f4] 48 (0, 0))) (v := .slice (some ⟨(w2.drew.alloc (.cells #[.int .i64 v] 3 (0, 0))).heap.size, 0, none⟩) 1 1) ?hw ?hr ?_; (case hw => rfl); (case hr => first | (go_simp; done) | (go_simp; rfl))
            have HBq29 := Aside0.mk (below_alloc HBq2.out (.cells #[.int .i64 x.f0, .int .i64 x.f1, .int .i64 x.f2, .int .i64 x.f3.f0, .int .i64 x.f3.f1, .bool x.f4] 48 (0, 0)))
            have HO7q29 := Aside0.mk (Kd.R_alloc HO7q2.out (.cells #[.int .i64 x.f0, .int .i64 x.f1, .int .i64 x.f2, .int .i64 x.f3.f0, .int .i64 x.f3.f1, .bool x.f4] 48 (0, 0)))
            have HO8q29 := Aside0.mk (Kd.R_alloc HO8q2.out (.cells #[.int .i64 x.f0, .int .i64 x.f1, .int .i64 x.f2, .int .i64 x.f3.f0, .int .i64 x.f3.f1, .bool x.f4] 48 (0, 0)))
            have HNq29 := Aside0.mk (Kd.R_ne_new HO7q2.out 0)
            have HK9q29 := Aside0.mk (blk_new (w2.drew.alloc (.cells #[.int .i64 v] 3 (0, 0))) (.cells #[.int .i64 x.f0, .int .i64 x.f1, .int .i64 x.f2, .int .i64 x.f3.f0, .int .i64 x.f3.f1, .bool x.f4] 48 (0, 0)))
            have HK2q29 := Aside0.mk (blk_alloc HK2q2.out (.cells #[.int .i64 x.f0, .int .i64 x.f1, .int .i64 x.f2, .int .i64 x.f3.f0, .int .i64 x.f3.f1, .bool x.f4] 48 (0, 0)))
            refine hK.out _ _ ⟨(HE.out _ HBq29.out).1, (HE.out _ HBq29.out).2.1, (HE.out _ HBq29.out).2.2.1, (HE.out _ HBq29.out).2.2.2.1, (HE.out _ HBq29.out).2.2.2.2.1, (HE.out _ HBq29.out).2.2.2.2.2⟩ (fun hHeld => ?_)
            clear hK K
            refine norm_ (a' := ?_) ?_ ?_
            rotate_left
            · show Act.put _ (some 41) _ = _
              simp only [Act.put, List.setIfInBounds_toArray, List.set_cons_zero, List.set_cons_succ, i64_w, i32_w]
              rfl
            refine one_ (i := 3) (N := some 35) #[true, true, true, true, true, true, true, true, true, true, false, false, false] rfl rfl (by kernel_rfl) (by decide) (fun K hK => ?_)
            refine Kd.R_append_rows_step (Kd.int .i64) (w0 := w) (W := ((w2.drew.alloc (.cells #[.int .i64 v] 3 (0, 0))).alloc (.cells #[.int .i64 x.f0, .int .i64 x.f1, .int .i64 x.f2, .int .i64 x.f3.f0, .int .i64 x.f3.f1, .bool x.f4] 48 (0, 0)))) w.heap.size ?hw (.tmp 32) (.tmp 34) 37 3 (.int .i64 0) 8 rfl Try.underlying37 info3 rfl (by decide) (by omega) _ hs [v] (some ⟨w2.drew.heap.size, 0, none⟩) 1 1 (fun _ => True) (fun _ => False) rfl rfl HO7q29.out (Go.Proofs.Ytacjlaiddnfpdaa.H.C_blk1 (Kd.int .i64) (cs := [.int .i64 v]) rfl rfl HK2q29.out) (fun _ _ h => h) (fun _ h => h.elim) (fun _ _ => trivial) HBq29.out (below_size HBq29.out) (by have := HLS.out; omega) ?_; (case hw => rfl)
            intro v35 w3 ho hb hg hat
            have HBq293 := Aside0.mk hb
            have HO7q293 := Aside0.mk ho
            have HO8q293 := Aside0.mk (Kd.R_over' HO8q29.out (Kd.R_typed HO7q29.out) (by decide) hg)
            have HK9q293 := Aside0.mk (blk_grown HK9q29.out hg (fun he => by exact absurd (Kd.R_lt HO7q2.out _ he.symm) (Nat.lt_irrefl _)))
            clear ho hb hg hat
            refine hK.out _ _ ⟨(HE.out _ HBq293.out).1, (HE.out _ HBq293.out).2.1, (HE.out _ HBq293.out).2.2.1, (HE.out _ HBq293.out).2.2.2.1, (HE.out _ HBq293.out).2.2.2.2.1, (HE.out _ HBq293.out).2.2.2.2.2⟩ (fun hHeld => ?_)
            clear hK K
            refine norm_ (a' := ?_) ?_ ?_
            rotate_left
            · show Act.put _ (some 35) _ = _
              simp only [Act.put, List.setIfInBounds_toArray, List.set_cons_zero, List.set_cons_succ, i64_w, i32_w]
              rfl
            exact norm_ (by simp only [putAll, Act.put, List.setIfInBounds_toArray, List.set_cons_zero, List.set_cons_succ]) (hCont (w2.drew.heap.size, v35, (w2.drew.alloc (.cells #[.int .i64 v] 3 (0, 0))).heap.size) _ ⟨HO7q293.out, HO8q293.out, HK9q293.out, HBq293.out⟩)
        · skip
          refine event_step (w1 := w2.drew.alloc (.cells #[.int .i64 x.f0, .int .i64 x.f1, .int .i64 x.f2, .int .i64 x.f3.f0, .int .i64 x.f3.f1, .bool x.f4] 48 (0, 0))) (v := .slice (some ⟨w2.drew.heap.size, 0, none⟩) 1 1) ?hw ?hr ?_; (case hw => rfl); (case hr => first | (go_simp; done) | (go_simp; rfl))
          have HBq9 := Aside0.mk (below_alloc (below_drew1 HB2.out) (.cells #[.int .i64 x.f0, .int .i64 x.f1, .int .i64 x.f2, .int .i64 x.f3.f0, .int .i64 x.f3.f1, .bool x.f4] 48 (0, 0)))
          have HO7q9 := Aside0.mk (Kd.R_alloc (Kd.R_drew HO72.out) (.cells #[.int .i64 x.f0, .int .i64 x.f1, .int .i64 x.f2, .int .i64 x.f3.f0, .int .i64 x.f3.f1, .bool x.f4] 48 (0, 0)))
          have HO8q9 := Aside0.mk (Kd.R_alloc (Kd.R_drew HO82.out) (.cells #[.int .i64 x.f0, .int .i64 x.f1, .int .i64 x.f2, .int .i64 x.f3.f0, .int .i64 x.f3.f1, .bool x.f4] 48 (0, 0)))
          have HNq9 := Aside0.mk (Kd.R_ne_new (Kd.R_drew HO72.out) 0)
          have HK9q9 := Aside0.mk (blk_new w2.drew (.cells #[.int .i64 x.f0, .int .i64 x.f1, .int .i64 x.f2, .int .i64 x.f3.f0, .int .i64 x.f3.f1, .bool x.f4] 48 (0, 0)))
          refine hK.out _ _ ⟨(HE.out _ HBq9.out).1, (HE.out _ HBq9.out).2.1, (HE.out _ HBq9.out).2.2.1, (HE.out _ HBq9.out).2.2.2.1, (HE.out _ HBq9.out).2.2.2.2.1, (HE.out _ HBq9.out).2.2.2.2.2⟩ (fun hHeld => ?_)
          clear hK K
          refine norm_ (a' := ?_) ?_ ?_
          rotate_left
          · show Act.put _ (some 41) _ = _
            simp only [Act.put, List.setIfInBounds_toArray, List.set_cons_zero, List.set_cons_succ, i64_w, i32_w]
            rfl
          refine one_ (i := 2) (N := some 34) #[true, true, true, false, true, true, true, true, true, true, false, false, false] rfl rfl (by kernel_rfl) (by decide) (fun K hK => ?_)
          refine event_step (w1 := (w2.drew.alloc (.cells #[.int .i64 x.f0, .int .i64 x.f1, .int .i64 x.f2, .int .i64 x.f3.f0, .int .i64 x.f3.f1, .bool x.f4] 48 (0, 0))).alloc (.cells #[.int .i64 v] 3 (0, 0))) (v := .slice (some ⟨(w2.drew.alloc (.cells #[.int .i64 x.f0, .int .i64 x.f1, .int .i64 x.f2, .int .i64 x.f3.f0, .int .i64 x.f3.f1, .bool x.f4] 48 (0, 0))).heap.size, 0, none⟩) 1 1) ?hw ?hr ?_; (case hw => rfl); (case hr => first | (go_simp; done) | (go_simp; rfl))
          have HBq92 := Aside0.mk (below_alloc HBq9.out (.cells #[.int .i64 v] 3 (0, 0)))
          have HO7q92 := Aside0.mk (Kd.R_alloc HO7q9.out (.cells #[.int .i64 v] 3 (0, 0)))
          have HO8q92 := Aside0.mk (Kd.R_alloc HO8q9.out (.cells #[.int .i64 v] 3 (0, 0)))
          have HNq92 := Aside0.mk (Kd.R_ne_new HO7q9.out 0)
          have HK2q92 := Aside0.mk (blk_new (w2.drew.alloc (.cells #[.int .i64 x.f0, .int .i64 x.f1, .int .i64 x.f2, .int .i64 x.f3.f0, .int .i64 x.f3.f1, .bool x.f4] 48 (0, 0))) (.cells #[.int .i64 v] 3 (0, 0)))
          have HK9q92 := Aside0.mk (blk_alloc HK9q9.out (.cells #[.int .i64 v] 3 (0, 0)))
          refine hK.out _ _ ⟨(HE.out _ HBq92.out).1, (HE.out _ HBq92.out).2.1, (HE.out _ HBq92.out).2.2.1, (HE.out _ HBq92.out).2.2.2.1, (HE.out _ HBq92.out).2.2.2.2.1, (HE.out _ HBq92.out).2.2.2.2.2⟩ (fun hHeld => ?_)
          clear hK K
          refine norm_ (a' := ?_) ?_ ?_
          rotate_left
          · show Act.put _ (some 34) _ = _
            simp only [Act.put, List.setIfInBounds_toArray, List.set_cons_zero, List.set_cons_succ, i64_w, i32_w]
            rfl
          refine one_ (i := 3) (N := some 35) #[true, true, true, true, true, true, true, true, true, true, false, false, false] rfl rfl (by kernel_rfl) (by decide) (fun K hK => ?_)
          refine Kd.R_append_rows_step (Kd.int .i64) (w0 := w) (W := ((w2.drew.alloc (.cells #[.int .i64 x.f0, .int .i64 x.f1, .int .i64 x.f2, .int .i64 x.f3.f0, .int .i64 x.f3.f1, .bool x.f4] 48 (0, 0))).alloc (.cells #[.int .i64 v] 3 (0, 0)))) w.heap.size ?hw (.tmp 32) (.tmp 34) 37 3 (.int .i64 0) 8 rfl Try.underlying37 info3 rfl (by decide) (by omega) _ hs [v] (some ⟨(w2.drew.alloc (.cells #[.int .i64 x.f0, .int .i64 x.f1, .int .i64 x.f2, .int .i64 x.f3.f0, .int .i64 x.f3.f1, .bool x.f4] 48 (0, 0))).heap.size, 0, none⟩) 1 1 (fun _ => True) (fun _ => False) rfl rfl HO7q92.out (Go.Proofs.Ytacjlaiddnfpdaa.H.C_blk1 (Kd.int .i64) (cs := [.int .i64 v]) rfl rfl HK2q92.out) (fun _ _ h => h) (fun _ h => h.elim) (fun _ _ => trivial) HBq92.out (below_size HBq92.out) (by have := HLS.out; omega) ?_; (case hw => rfl)
          intro v35 w3 ho hb hg hat
          have HBq923 := Aside0.mk hb
          have HO7q923 := Aside0.mk ho
          have HO8q923 := Aside0.mk (Kd.R_over' HO8q92.out (Kd.R_typed HO7q92.out) (by decide) hg)
          have HK9q923 := Aside0.mk (blk_grown HK9q92.out hg (fun he => by exact absurd (Kd.R_lt (Kd.R_drew HO72.out) _ he.symm) (Nat.lt_irrefl _)))
          clear ho hb hg hat
          refine hK.out _ _ ⟨(HE.out _ HBq923.out).1, (HE.out _ HBq923.out).2.1, (HE.out _ HBq923.out).2.2.1, (HE.out _ HBq923.out).2.2.2.1, (HE.out _ HBq923.out).2.2.2.2.1, (HE.out _ HBq923.out).2.2.2.2.2⟩ (fun hHeld => ?_)
          clear hK K
          refine norm_ (a' := ?_) ?_ ?_
          rotate_left
          · show Act.put _ (some 35) _ = _
            simp only [Act.put, List.setIfInBounds_toArray, List.set_cons_zero, List.set_cons_succ, i64_w, i32_w]
            rfl
          exact norm_ (by simp only [putAll, Act.put, List.setIfInBounds_toArray, List.set_cons_zero, List.set_cons_succ]) (hCont ((w2.drew.alloc (.cells #[.int .i64 x.f0, .int .i64 x.f1, .int .i64 x.f2, .int .i64 x.f3.f0, .int .i64 x.f3.f1, .bool x.f4] 48 (0, 0))).heap.size, v35, w2.drew.heap.size) _ ⟨HO7q923.out, HO8q923.out, HK9q923.out, HBq923.out⟩)
      rintro ⟨g34, v35, g41⟩ w6 ⟨hA_, hB_, hC_, hD_⟩
      have HO76 := Aside0.mk hA_
      have HO86 := Aside0.mk hB_
      have HK96 := Aside0.mk hC_
      have HB6 := Aside0.mk hD_
      clear hA_ hB_ hC_ hD_
      refine norm_ (a' := ?_) ?_ ?_
      rotate_left
      · simp only [putAll, Act.put, List.setIfInBounds_toArray, List.set_cons_zero, List.set_cons_succ]
        rfl
      refine one_ (i := 10) (N := some 42) #[true, true, true, true, true, true, true, true, true, true, true, false, false] rfl rfl (by kernel_rfl) (by decide) (fun K hK => ?_)
      refine Kd.R_append_rows_step k48 (w0 := w) (W := w6) w.heap.size ?hw (.tmp 36) (.tmp 41) 22 48 (.agg #[.int .i64 0, .int .i64 0, .int .i64 0, .int .i64 0, .int .i64 0, .bool false]) 48 rfl Try.underlying22 info48 rfl (by decide) (by omega) _ way [x] (some ⟨g41, 0, none⟩) 1 1 (fun _ => True) (fun _ => False) rfl rfl HO86.out (Go.Proofs.Ytacjlaiddnfpdaa.H.C_blk1 k48 (cs := [.int .i64 x.f0, .int .i64 x.f1, .int .i64 x.f2, .int .i64 x.f3.f0, .int .i64 x.f3.f1, .bool x.f4]) rfl (k48_mk _ _) HK96.out) (fun _ _ h => h) (fun _ h => h.elim) (fun _ _ => trivial) HB6.out (below_size HB6.out) (by have := HLS.out; have := HLW.out; omega) ?_; (case hw => rfl)
      intro v42 w9 ho hb hg hat
      have HB9 := Aside0.mk hb
      have HO89 := Aside0.mk ho
      have HO79 := Aside0.mk (Kd.R_over' HO76.out (Kd.R_typed HO86.out) (by decide) hg)
      clear ho hb hg hat
      refine hK.out _ _ ⟨(HE.out _ HB9.out).1, (HE.out _ HB9.out).2.1, (HE.out _ HB9.out).2.2.1, (HE.out _ HB9.out).2.2.2.1, (HE.out _ HB9.out).2.2.2.2.1, (HE.out _ HB9.out).2.2.2.2.2⟩ (fun hHeld => ?_)
      clear hK K
      refine norm_ (a' := ?_) ?_ ?_
      rotate_left
      · show Act.put _ (some 42) _ = _
        simp only [Act.put, List.setIfInBounds_toArray, List.set_cons_zero, List.set_cons_succ, i64_w, i32_w]
        rfl
      refine pure_ (i := 11) (N := some 7) (v := ?_) (a' := ?_) #[true, true, true, true, true, true, true, true, true, true, true, true, false] rfl rfl (by kernel_rfl) (fun _ _ _ h => h) (Or.inl ⟨by rfl, ?_⟩) ?_ ?_
      rotate_left
      · intro w'
        go_simp
        with_reducible rfl
      rotate_left
      · simp only [Act.put, List.setIfInBounds_toArray, List.set_cons_zero, List.set_cons_succ, i64_w, i32_w]
        rfl
      refine pure_ (i := 12) (N := some 8) (v := ?_) (a' := ?_) #[true, true, true, true, true, true, true, true, true, true, true, true, true] rfl rfl (by kernel_rfl) (fun _ _ _ h => h) (Or.inl ⟨by rfl, ?_⟩) ?_ ?_
      rotate_left
      · intro w'
        go_simp
        with_reducible rfl
      rotate_left
      · simp only [Act.put, List.setIfInBounds_toArray, List.set_cons_zero, List.set_cons_succ, i64_w, i32_w]
        rfl
      refine done_ (by kernel_rfl) ?_
      clear h0 h1 h2 h3 h4 h5 hx0 hx1
      obtain ⟨h0, h1, h2, h3, h4, h5⟩ := HE.out _ HB9.out
      clear h1 h2 h3 h4 h5
      go_wp2_with (fail)
      go_roundg d
      case measure => omega
      case rel => exact ⟨x.f0, (d : Int) - 1, hs ++ [v], way ++ [x], rfl, rfl, by first | rfl | go_num, ⟨by rw [List.length_append, List.length_singleton]; have := HLS.out; omega⟩, ⟨by rw [List.length_append, List.length_append, HLW.out]; rfl⟩, HGN, HO79, HO89, HB9⟩


/-! ### loop_Of: function 32 -/
def loop_Of.l0 : Nat → Int → List (S48) → List (List Int) → List (List Int) → Int → Int → Option ((List (S48)))
  | 0, _, _, _, _, _, _ => none
  | k + 1, x0, x1, x5, x6, x17, x18 => if x18 < x17 then (if 0 ≤ x0 then (if x0 < (x5.length : Int) then (if 0 ≤ x18 then (if x18 < ((rd_L7 x5 x0).length : Int) then (if 0 ≤ (wrap64 (x0 - 1)) then (if (wrap64 (x0 - 1)) < (x5.length : Int) then (if x18 < ((rd_L7 x5 (wrap64 (x0 - 1))).length : Int) then (if (rd (rd_L7 x5 x0) x18) < (rd (rd_L7 x5 (wrap64 (x0 - 1))) x18) then ((loop_back.f k x18 x6 x1).bind fun t202 => ((loop_turned.f t202).bind fun t205 => (some t205))) else (loop_Of.l0 k x0 x1 x5 x6 x17 (wrap64 (x18 + 1)))) else (none)) else (none)) else (none)) else (none)) else (none)) else (none)) else (none)) else (some ([] : List (S48)))
def loop_Of.f (k : Nat) (a0 : Int) (l1 : List (S48)) : Option ((List (S48))) := (relax_Layers.f k a0 l1).bind fun bt192 => (if (bt192.1.length : Int) < 2 then (some ([] : List (S48))) else (loop_Of.l0 k a0 l1 bt192.1 bt192.2 a0 0))
theorem loop_Of.mono_l : ∀ k, (∀ y0 y1 y2 y3 y4 y5, LeO (loop_Of.l0 k y0 y1 y2 y3 y4 y5) (loop_Of.l0 (k + 1) y0 y1 y2 y3 y4 y5))
  | 0 => fun _ _ _ _ _ _ r h => by simp [loop_Of.l0] at h
  | k + 1 => by
    have ih0 := loop_Of.mono_l k
    · intro y0 y1 y2 y3 y4 y5
      unfold loop_Of.l0
      repeat' first
      | (with_reducible exact ih0 _ _ _ _ _ _)
      | (with_reducible exact loop_back.mono _ _ _ _)
      | (with_reducible exact relax_Layers.mono _ _ _)
      | (with_reducible exact LeO.refl _)
      | (with_reducible exact LeO.none _)
      | (with_reducible refine LeO.ite ?_ ?_)
      | (with_reducible refine LeO.bind ?_ (fun _ => ?_))
      | exact ih0 _ _ _ _ _ _
      | exact loop_back.mono _ _ _ _
      | exact relax_Layers.mono _ _ _
      | exact LeO.none _
      | refine LeO.ite ?_ ?_
      | refine LeO.bind ?_ (fun _ => ?_)
theorem loop_Of.mono : ∀ a0 a1 k, LeO (loop_Of.f k a0 a1) (loop_Of.f (k + 1) a0 a1) := by
  intro a0 a1 k
  have ih0 := loop_Of.mono_l k
  unfold loop_Of.f
  repeat' first
      | (with_reducible exact ih0 _ _ _ _ _ _)
      | (with_reducible exact loop_back.mono _ _ _ _)
      | (with_reducible exact relax_Layers.mono _ _ _)
      | (with_reducible exact LeO.refl _)
      | (with_reducible exact LeO.none _)
      | (with_reducible refine LeO.ite ?_ ?_)
      | (with_reducible refine LeO.bind ?_ (fun _ => ?_))
      | exact ih0 _ _ _ _ _ _
      | exact loop_back.mono _ _ _ _
      | exact relax_Layers.mono _ _ _
      | exact LeO.none _
      | refine LeO.ite ?_ ?_
      | refine LeO.bind ?_ (fun _ => ?_)
set_option maxHeartbeats 8000000 in
set_option maxRecDepth 100000 in
theorem loop_Of.calls (k : Nat) (a0 : Int) (A1 : Option Addr) (c1 : Nat) (l1 : List (S48)) (r : List (S48)) (w : World) (hr1 : Kd.C k48 w A1 l1.length l1) (hc1 : l1.length ≤ c1) (h : loop_Of.f k a0 l1 = some r) :
    Calls Try.prog 32 #[.int .i64 a0, .slice A1 l1.length c1] w fun e w' => ∃ v0_ : Value, e = .returned (v0_) ∧ Kd.R k48 48 w' w.heap.size (fun _ => True) v0_ r ∧ Below w.heap.size w w' := by
  have HR1 := Aside0.mk hr1
  have HC1 := Aside0.mk hc1
  clear hr1 hc1
  have HB := Aside0.mk (Below.refl w.heap.size w)
  have H : ((relax_Layers.f k a0 l1).bind fun bt192 => (if (bt192.1.length : Int) < 2 then (some ([] : List (S48))) else (loop_Of.l0 k a0 l1 bt192.1 bt192.2 a0 0))) = some r := h
  clear h
  replace H := Option.bind_eq_some_iff.mp H
  obtain ⟨⟨t192, t195⟩, A30, H⟩ := H
  replace H : (if (t192.length : Int) < 2 then (some ([] : List (S48))) else (loop_Of.l0 k a0 l1 t192 t195 a0 0)) = some r := H
  have A3 := Aside0.mk A30
  clear A30
  by_cases c4 : (t192.length : Int) < 2
  · rw [if_pos c4] at H
    have c4b0 : decide ((t192.length : Int) < 2) = true := decide_eq_true c4
    have c4b1 : decide (t192.length < 2) = true := decide_eq_true (by omega)
    clear c4
    obtain rfl := Option.some.inj H
    go_enter Try.func32, Try.ntmps32
    go_wp2_with (first | (go_at_call 21; (with_reducible refine (relax_Layers.calls k a0 _ _ l1 t192 t195 _ ?side1 ?side2 A3.out).mono ?_); (case side1 => repeat (first | exact HR1.out | (with_reducible refine Kd.C_alloc ?_ _) | (with_reducible refine Kd.C_drewN ?_ _) | (with_reducible refine Kd.C_drew ?_))); (case side2 => exact HC1.out); rintro e w5 ⟨v193, v196, rfl, ho0, ho1, hb⟩; have n0_ := Aside0.mk (Kd.N_lower (Kd.N_mono (ok' := fun k_ => some k_ ≠ (v196 : Value).ownBlock) ho0 (fun k_ hk_ => hk_.2)) (below_size (by repeat (first | (with_reducible first | exact HB.out | apply below_alloc | apply pw_below_drewN | apply below_drew1) | exact HB.out)))); have n1_ := Aside0.mk (Kd.N_lower (Kd.N_mono (ok' := fun k_ => some k_ ≠ (v193 : Value).ownBlock) ho1 (fun k_ hk_ => hk_.2)) (below_size (by repeat (first | (with_reducible first | exact HB.out | apply below_alloc | apply pw_below_drewN | apply below_drew1) | exact HB.out)))); have n2_ := Aside0.mk (below_step (by repeat (first | (with_reducible first | exact HB.out | apply below_alloc | apply pw_below_drewN | apply below_drew1) | exact HB.out)) hb); clear HB; have HO194 := n0_; have HO197 := n1_; have HB := n2_; clear n0_ n1_ n2_; (try clear hb); (try clear hb2); (try clear hk); (try clear hi); (try clear ho0); (try clear ho1); obtain ⟨Ao6, co6, eo6⟩ := Kd.N_slice HO194.out; subst eo6))
    repeat (go_quiet (first | (go_at_call 21; (with_reducible refine (relax_Layers.calls k a0 _ _ l1 t192 t195 _ ?side1 ?side2 A3.out).mono ?_); (case side1 => repeat (first | exact HR1.out | (with_reducible refine Kd.C_alloc ?_ _) | (with_reducible refine Kd.C_drewN ?_ _) | (with_reducible refine Kd.C_drew ?_))); (case side2 => exact HC1.out); rintro e w5 ⟨v193, v196, rfl, ho0, ho1, hb⟩; have n0_ := Aside0.mk (Kd.N_lower (Kd.N_mono (ok' := fun k_ => some k_ ≠ (v196 : Value).ownBlock) ho0 (fun k_ hk_ => hk_.2)) (below_size (by repeat (first | (with_reducible first | exact HB.out | apply below_alloc | apply pw_below_drewN | apply below_drew1) | exact HB.out)))); have n1_ := Aside0.mk (Kd.N_lower (Kd.N_mono (ok' := fun k_ => some k_ ≠ (v193 : Value).ownBlock) ho1 (fun k_ hk_ => hk_.2)) (below_size (by repeat (first | (with_reducible first | exact HB.out | apply below_alloc | apply pw_below_drewN | apply below_drew1) | exact HB.out)))); have n2_ := Aside0.mk (below_step (by repeat (first | (with_reducible first | exact HB.out | apply below_alloc | apply pw_below_drewN | apply below_drew1) | exact HB.out)) hb); clear HB; have HO194 := n0_; have HO197 := n1_; have HB := n2_; clear n0_ n1_ n2_; (try clear hb); (try clear hb2); (try clear hk); (try clear hi); (try clear ho0); (try clear ho1); obtain ⟨Ao6, co6, eo6⟩ := Kd.N_slice HO194.out; subst eo6)); try go_wp2_with (first | (go_at_call 21; (with_reducible refine (relax_Layers.calls k a0 _ _ l1 t192 t195 _ ?side1 ?side2 A3.out).mono ?_); (case side1 => repeat (first | exact HR1.out | (with_reducible refine Kd.C_alloc ?_ _) | (with_reducible refine Kd.C_drewN ?_ _) | (with_reducible refine Kd.C_drew ?_))); (case side2 => exact HC1.out); rintro e w5 ⟨v193, v196, rfl, ho0, ho1, hb⟩; have n0_ := Aside0.mk (Kd.N_lower (Kd.N_mono (ok' := fun k_ => some k_ ≠ (v196 : Value).ownBlock) ho0 (fun k_ hk_ => hk_.2)) (below_size (by repeat (first | (with_reducible first | exact HB.out | apply below_alloc | apply pw_below_drewN | apply below_drew1) | exact HB.out)))); have n1_ := Aside0.mk (Kd.N_lower (Kd.N_mono (ok' := fun k_ => some k_ ≠ (v193 : Value).ownBlock) ho1 (fun k_ hk_ => hk_.2)) (below_size (by repeat (first | (with_reducible first | exact HB.out | apply below_alloc | apply pw_below_drewN | apply below_drew1) | exact HB.out)))); have n2_ := Aside0.mk (below_step (by repeat (first | (with_reducible first | exact HB.out | apply below_alloc | apply pw_below_drewN | apply below_drew1) | exact HB.out)) hb); clear HB; have HO194 := n0_; have HO197 := n1_; have HB := n2_; clear n0_ n1_ n2_; (try clear hb); (try clear hb2); (try clear hk); (try clear hi); (try clear ho0); (try clear ho1); obtain ⟨Ao6, co6, eo6⟩ := Kd.N_slice HO194.out; subst eo6)))
    go_ret
    exact ⟨_, by first | rfl | (simp [errW_none, errW_some] <;> rfl) | (simp [*, errW_none, errW_some] <;> rfl), by first | exact Kd.R_nil _ _ _ _ _ | exact Kd.N_nil _ _ _ _ _ | exact Kd.V_nil _ _ _ _ _ | exact Kd.Q_nil _ _ _ _ _ | exact Kd.S_nil _ _ _ _ _, by repeat (first | (with_reducible first | exact HB.out | apply below_alloc | apply pw_below_drewN | apply below_drew1) | exact HB.out)⟩
  · rw [if_neg c4] at H
    have c4b0 : decide ((t192.length : Int) < 2) = false := decide_eq_false c4
    have c4b1 : decide (t192.length < 2) = false := decide_eq_false (by omega)
    clear c4
    have H' := Aside0.mk H
    clear H
    go_enter Try.func32, Try.ntmps32
    go_wp2_with (first | (go_at_call 21; (with_reducible refine (relax_Layers.calls k a0 _ _ l1 t192 t195 _ ?side1 ?side2 A3.out).mono ?_); (case side1 => repeat (first | exact HR1.out | (with_reducible refine Kd.C_alloc ?_ _) | (with_reducible refine Kd.C_drewN ?_ _) | (with_reducible refine Kd.C_drew ?_))); (case side2 => exact HC1.out); rintro e w7 ⟨v193, v196, rfl, ho0, ho1, hb⟩; have n0_ := Aside0.mk (Kd.N_lower (Kd.N_mono (ok' := fun k_ => some k_ ≠ (v196 : Value).ownBlock) ho0 (fun k_ hk_ => hk_.2)) (below_size (by repeat (first | (with_reducible first | exact HB.out | apply below_alloc | apply pw_below_drewN | apply below_drew1) | exact HB.out)))); have n1_ := Aside0.mk (Kd.N_lower (Kd.N_mono (ok' := fun k_ => some k_ ≠ (v193 : Value).ownBlock) ho1 (fun k_ hk_ => hk_.2)) (below_size (by repeat (first | (with_reducible first | exact HB.out | apply below_alloc | apply pw_below_drewN | apply below_drew1) | exact HB.out)))); have n2_ := Aside0.mk (below_step (by repeat (first | (with_reducible first | exact HB.out | apply below_alloc | apply pw_below_drewN | apply below_drew1) | exact HB.out)) hb); clear HB; have HO194 := n0_; have HO197 := n1_; have HB := n2_; clear n0_ n1_ n2_; (try clear hb); (try clear hb2); (try clear hk); (try clear hi); (try clear ho0); (try clear ho1); obtain ⟨Ao8, co8, eo8⟩ := Kd.N_slice HO194.out; subst eo8))
    repeat (go_quiet (first | (go_at_call 21; (with_reducible refine (relax_Layers.calls k a0 _ _ l1 t192 t195 _ ?side1 ?side2 A3.out).mono ?_); (case side1 => repeat (first | exact HR1.out | (with_reducible refine Kd.C_alloc ?_ _) | (with_reducible refine Kd.C_drewN ?_ _) | (with_reducible refine Kd.C_drew ?_))); (case side2 => exact HC1.out); rintro e w7 ⟨v193, v196, rfl, ho0, ho1, hb⟩; have n0_ := Aside0.mk (Kd.N_lower (Kd.N_mono (ok' := fun k_ => some k_ ≠ (v196 : Value).ownBlock) ho0 (fun k_ hk_ => hk_.2)) (below_size (by repeat (first | (with_reducible first | exact HB.out | apply below_alloc | apply pw_below_drewN | apply below_drew1) | exact HB.out)))); have n1_ := Aside0.mk (Kd.N_lower (Kd.N_mono (ok' := fun k_ => some k_ ≠ (v193 : Value).ownBlock) ho1 (fun k_ hk_ => hk_.2)) (below_size (by repeat (first | (with_reducible first | exact HB.out | apply below_alloc | apply pw_below_drewN | apply below_drew1) | exact HB.out)))); have n2_ := Aside0.mk (below_step (by repeat (first | (with_reducible first | exact HB.out | apply below_alloc | apply pw_below_drewN | apply below_drew1) | exact HB.out)) hb); clear HB; have HO194 := n0_; have HO197 := n1_; have HB := n2_; clear n0_ n1_ n2_; (try clear hb); (try clear hb2); (try clear hk); (try clear hi); (try clear ho0); (try clear ho1); obtain ⟨Ao8, co8, eo8⟩ := Kd.N_slice HO194.out; subst eo8)); try go_wp2_with (first | (go_at_call 21; (with_reducible refine (relax_Layers.calls k a0 _ _ l1 t192 t195 _ ?side1 ?side2 A3.out).mono ?_); (case side1 => repeat (first | exact HR1.out | (with_reducible refine Kd.C_alloc ?_ _) | (with_reducible refine Kd.C_drewN ?_ _) | (with_reducible refine Kd.C_drew ?_))); (case side2 => exact HC1.out); rintro e w7 ⟨v193, v196, rfl, ho0, ho1, hb⟩; have n0_ := Aside0.mk (Kd.N_lower (Kd.N_mono (ok' := fun k_ => some k_ ≠ (v196 : Value).ownBlock) ho0 (fun k_ hk_ => hk_.2)) (below_size (by repeat (first | (with_reducible first | exact HB.out | apply below_alloc | apply pw_below_drewN | apply below_drew1) | exact HB.out)))); have n1_ := Aside0.mk (Kd.N_lower (Kd.N_mono (ok' := fun k_ => some k_ ≠ (v193 : Value).ownBlock) ho1 (fun k_ hk_ => hk_.2)) (below_size (by repeat (first | (with_reducible first | exact HB.out | apply below_alloc | apply pw_below_drewN | apply below_drew1) | exact HB.out)))); have n2_ := Aside0.mk (below_step (by repeat (first | (with_reducible first | exact HB.out | apply below_alloc | apply pw_below_drewN | apply below_drew1) | exact HB.out)) hb); clear HB; have HO194 := n0_; have HO197 := n1_; have HB := n2_; clear n0_ n1_ n2_; (try clear hb); (try clear hb2); (try clear hk); (try clear hi); (try clear ho0); (try clear ho1); obtain ⟨Ao8, co8, eo8⟩ := Kd.N_slice HO194.out; subst eo8)))
    go_loopg [18] k (fun kq v18 w' => ∃ (x18_1 : Int), v18 = .int .i64 x18_1 ∧ Aside0 (loop_Of.l0 kq a0 l1 t192 t195 a0 x18_1 = some r) ∧ Aside0 (kq ≤ k) ∧ Aside0 (Kd.N (Kd.slice 2 (Kd.int .i64)) 23 w' w.heap.size (fun k_ => some k_ ≠ (v196 : Value).ownBlock) (.slice Ao8 t192.length co8) t192) ∧ Aside0 (Kd.N (Kd.slice 3 (Kd.int .i64)) 37 w' w.heap.size (fun k_ => some k_ ≠ ((.slice Ao8 t192.length co8) : Value).ownBlock) v196 t195) ∧ Aside0 (Below w.heap.size w w'))
    case atStart => exact ⟨(0), (by first | rfl | (simp; done) | (simp [*]; done)), H', ⟨Nat.le_refl _⟩, ⟨by (with_reducible repeat (first | apply Kd.N_alloc | apply Kd.N_drewN | apply Kd.N_drew)); exact HO194.out⟩, ⟨by (with_reducible repeat (first | apply Kd.N_alloc | apply Kd.N_drewN | apply Kd.N_drew)); exact HO197.out⟩, ⟨by repeat (first | (with_reducible first | exact HB.out | apply below_alloc | apply pw_below_drewN | apply below_drew1) | exact HB.out)⟩⟩
    case round =>
      clear H'
      try clear c1
      try clear p2
      try clear c3
      try clear c4
      try clear c4b0
      try clear c4b1
      obtain ⟨x18_1, rfl, HA, HK1, HO_5, HO_6, HB⟩ := hrel
      cases gk with
      | zero => exact absurd HA.out (by simp [loop_Of.l0])
      | succ k1 =>
        have H := HA.out
        clear HA
        simp only [loop_Of.l0] at H
        by_cases c9 : x18_1 < a0
        · rw [if_pos c9] at H
          have c9b0 : decide (x18_1 < a0) = true := decide_eq_true c9
          clear c9
          by_cases c10 : 0 ≤ a0
          · rw [if_pos c10] at H
            have c10b0 : decide (0 ≤ a0) = true := decide_eq_true c10
            clear c10
            by_cases c11 : a0 < (t192.length : Int)
            · rw [if_pos c11] at H
              have c11b0 : decide (a0 < (t192.length : Int)) = true := decide_eq_true c11
              clear c11
              by_cases c12 : 0 ≤ x18_1
              · rw [if_pos c12] at H
                have c12b0 : decide (0 ≤ x18_1) = true := decide_eq_true c12
                clear c12
                by_cases c13 : x18_1 < ((rd_L7 t192 a0).length : Int)
                · rw [if_pos c13] at H
                  have c13b0 : decide (x18_1 < ((rd_L7 t192 a0).length : Int)) = true := decide_eq_true c13
                  clear c13
                  obtain ⟨ji14, hji14⟩ : ∃ j_ : Int, (wrap64 (a0 - 1)) = j_ := ⟨_, rfl⟩
                  replace H : (if 0 ≤ (ji14) then (if (ji14) < (t192.length : Int) then (if x18_1 < ((rd_L7 t192 (ji14)).length : Int) then (if (rd (rd_L7 t192 a0) x18_1) < (rd (rd_L7 t192 (ji14)) x18_1) then ((loop_back.f k1 x18_1 t195 l1).bind fun t202 => ((loop_turned.f t202).bind fun t205 => (some t205))) else (loop_Of.l0 k1 a0 l1 t192 t195 a0 (wrap64 (x18_1 + 1)))) else (none)) else (none)) else (none)) = some r := by first | (rw [hji14] at H; exact H) | (simp only [hji14] at H ⊢; exact H)
                  have hji14w : (IntKind.i64.wrap (a0 - 1)) = ji14 := (i64_w _).trans hji14
                  by_cases c15 : 0 ≤ (ji14)
                  · rw [if_pos c15] at H
                    have c15b0 : decide (0 ≤ (ji14)) = true := decide_eq_true c15
                    clear c15
                    by_cases c16 : (ji14) < (t192.length : Int)
                    · rw [if_pos c16] at H
                      have c16b0 : decide ((ji14) < (t192.length : Int)) = true := decide_eq_true c16
                      clear c16
                      by_cases c17 : x18_1 < ((rd_L7 t192 (ji14)).length : Int)
                      · rw [if_pos c17] at H
                        have c17b0 : decide (x18_1 < ((rd_L7 t192 (ji14)).length : Int)) = true := decide_eq_true c17
                        clear c17
                        by_cases c18 : (rd (rd_L7 t192 a0) x18_1) < (rd (rd_L7 t192 (ji14)) x18_1)
                        · rw [if_pos c18] at H
                          have c18b0 : decide ((rd (rd_L7 t192 a0) x18_1) < (rd (rd_L7 t192 (ji14)) x18_1)) = true := decide_eq_true c18
                          clear c18
                          replace H := Option.bind_eq_some_iff.mp H
                          obtain ⟨t202, A190, H⟩ := H
                          replace H : ((loop_turned.f t202).bind fun t205 => (some t205)) = some r := H
                          have A19 := Aside0.mk A190
                          clear A190
                          replace H := Option.bind_eq_some_iff.mp H
                          obtain ⟨t205, A200, H⟩ := H
                          replace H : (some t205) = some r := H
                          have A20 := Aside0.mk A200
                          clear A200
                          obtain rfl := Option.some.inj H
                          have p198 : 0 ≤ (a0 : Int) := of_decide_eq_true (by first | (with_reducible assumption) | assumption)
                          have q198 : a0 < (t192.length : Int) := of_decide_eq_true (by first | (with_reducible assumption) | assumption)
                          obtain ⟨ad198, A198_0, c198_0, e198, hx198_0, hl198_0, hi198_0⟩ := at_L7 (Kd.N_reads' HO_5.out).2.2 a0 p198 q198
                          cases e198
                          obtain ⟨ce198, hce198, hMe198, hcc198⟩ := Kd.N_get HO_5.out [] a0 p198 (by first | exact q198 | exact of_decide_eq_true (by first | (with_reducible assumption) | assumption) | (have e_ := (Kd.N_reads' HO_5.out).1; omega))
                          obtain ⟨ua198_0, uc198_0, rfl, ul198_0, ge198_0⟩ := Kd.FK_slice_open hMe198
                          have hv198_0 := hcc198 0 _ rfl
                          rw [Nat.add_zero, show ((Kd.slice 2 (Kd.int .i64))).sz = 1 from rfl, Nat.mul_one] at hv198_0
                          replace hv198_0 := Option.some.inj (hv198_0.symm.trans hx198_0)
                          injection hv198_0 with hva_ hvn_ hvc_
                          rw [hva_] at ge198_0
                          rw [hvc_] at ul198_0
                          have HL198_0 := Aside0.mk (show Kd.V (Kd.int .i64) 2 _ w.heap.size _ _ (rd_L7 t192 a0) from Kd.V_mk ul198_0 ge198_0)
                          clear hva_ hvn_ hvc_ ge198_0 ul198_0
                          clear hcc198 hce198
                          have HR198_0 := Aside0.mk hi198_0
                          have HC198_0 := Aside0.mk hl198_0
                          clear hi198_0 hl198_0
                          replace p198 := eq_true p198
                          replace q198 := eq_true q198
                          have p199 : 0 ≤ (x18_1 : Int) := of_decide_eq_true (by first | (with_reducible assumption) | assumption)
                          have q199 : x18_1 < ((rd_L7 t192 a0).length : Int) := of_decide_eq_true (by first | (with_reducible assumption) | assumption)
                          obtain ⟨ad199, e199, hx199_0⟩ := Kd.at_int (by repeat (first | (with_reducible exact HR198_0.out) | (with_reducible refine Kd.C_alloc ?_ _) | (with_reducible refine Kd.C_drewN ?_ _) | (with_reducible refine Kd.C_drew ?_) | exact HR198_0.out)) x18_1 p199 q199
                          cases e199
                          replace p199 := eq_true p199
                          replace q199 := eq_true q199
                          have p200 : 0 ≤ ((ji14) : Int) := of_decide_eq_true (by first | (with_reducible assumption) | assumption)
                          have q200 : (ji14) < (t192.length : Int) := of_decide_eq_true (by first | (with_reducible assumption) | assumption)
                          obtain ⟨ad200, A200_0, c200_0, e200, hx200_0, hl200_0, hi200_0⟩ := at_L7 (Kd.N_reads' HO_5.out).2.2 (ji14) p200 q200
                          obtain rfl : ad198 = ad200 := (by injection e200)
                          obtain ⟨ce200, hce200, hMe200, hcc200⟩ := Kd.N_get HO_5.out [] (ji14) p200 (by first | exact q200 | exact of_decide_eq_true (by first | (with_reducible assumption) | assumption) | (have e_ := (Kd.N_reads' HO_5.out).1; omega))
                          obtain ⟨ua200_0, uc200_0, rfl, ul200_0, ge200_0⟩ := Kd.FK_slice_open hMe200
                          have hv200_0 := hcc200 0 _ rfl
                          rw [Nat.add_zero, show ((Kd.slice 2 (Kd.int .i64))).sz = 1 from rfl, Nat.mul_one] at hv200_0
                          replace hv200_0 := Option.some.inj (hv200_0.symm.trans hx200_0)
                          injection hv200_0 with hva_ hvn_ hvc_
                          rw [hva_] at ge200_0
                          rw [hvc_] at ul200_0
                          have HL200_0 := Aside0.mk (show Kd.V (Kd.int .i64) 2 _ w.heap.size _ _ (rd_L7 t192 (ji14)) from Kd.V_mk ul200_0 ge200_0)
                          clear hva_ hvn_ hvc_ ge200_0 ul200_0
                          clear hcc200 hce200
                          have HR200_0 := Aside0.mk hi200_0
                          have HC200_0 := Aside0.mk hl200_0
                          clear hi200_0 hl200_0
                          replace p200 := eq_true p200
                          replace q200 := eq_true q200
                          have p201 : 0 ≤ (x18_1 : Int) := of_decide_eq_true (by first | (with_reducible assumption) | assumption)
                          have q201 : x18_1 < ((rd_L7 t192 (ji14)).length : Int) := of_decide_eq_true (by first | (with_reducible assumption) | assumption)
                          obtain ⟨ad201, e201, hx201_0⟩ := Kd.at_int (by repeat (first | (with_reducible exact HR200_0.out) | (with_reducible refine Kd.C_alloc ?_ _) | (with_reducible refine Kd.C_drewN ?_ _) | (with_reducible refine Kd.C_drew ?_) | exact HR200_0.out)) x18_1 p201 q201
                          cases e201
                          replace p201 := eq_true p201
                          replace q201 := eq_true q201
                          obtain ⟨Ao21, co21, eo21⟩ := Kd.N_slice HO_6.out
                          subst eo21
                          go_wp2_with (first | (go_at_call 47; (with_reducible refine (loop_back.calls k1 x18_1 _ _ t195 _ _ l1 t202 _ ?side1 ?side2 ?side3 ?side4 A19.out).mono ?_); (case side1 => repeat (first | exact (Kd.N_reads' HO_6.out).2.2 | (with_reducible refine Kd.C_alloc ?_ _) | (with_reducible refine Kd.C_drewN ?_ _) | (with_reducible refine Kd.C_drew ?_))); (case side2 => exact (Kd.N_reads' HO_6.out).2.1); (case side3 => repeat (first | exact (Kd.C_below HR1.out HB.out) | (with_reducible refine Kd.C_alloc ?_ _) | (with_reducible refine Kd.C_drewN ?_ _) | (with_reducible refine Kd.C_drew ?_))); (case side4 => exact HC1.out); rintro e w22 ⟨v203, rfl, ho0, hb⟩; have n0_ := Aside0.mk (Kd.N_elder' (by (with_reducible repeat (first | apply Kd.N_alloc | apply Kd.N_drewN | apply Kd.N_drew)); exact HO_5.out) (Kd.R_base ho0) hb); have n1_ := Aside0.mk (Kd.N_elder' (by (with_reducible repeat (first | apply Kd.N_alloc | apply Kd.N_drewN | apply Kd.N_drew)); exact HO_6.out) (Kd.R_base ho0) hb); have n2_ := Aside0.mk (Kd.V_elder' (by (with_reducible repeat (first | apply Kd.V_alloc | apply Kd.V_drewN | apply Kd.V_drew)); exact HL198_0.out) (Kd.R_base ho0) hb); have n3_ := Aside0.mk (Kd.V_elder' (by (with_reducible repeat (first | apply Kd.V_alloc | apply Kd.V_drewN | apply Kd.V_drew)); exact HL200_0.out) (Kd.R_base ho0) hb); have n4_ := Aside0.mk (Kd.R_lower ho0 (below_size (by repeat (first | (with_reducible first | exact HB.out | apply below_alloc | apply pw_below_drewN | apply below_drew1) | exact HB.out)))); have n5_ := Aside0.mk (Kd.C_below (by repeat (first | (with_reducible exact HR198_0.out) | (with_reducible refine Kd.C_alloc ?_ _) | (with_reducible refine Kd.C_drewN ?_ _) | (with_reducible refine Kd.C_drew ?_) | exact HR198_0.out)) hb); have n6_ := Aside0.mk (Kd.C_below (by repeat (first | (with_reducible exact HR200_0.out) | (with_reducible refine Kd.C_alloc ?_ _) | (with_reducible refine Kd.C_drewN ?_ _) | (with_reducible refine Kd.C_drew ?_) | exact HR200_0.out)) hb); have n7_ := Aside0.mk (below_step (by repeat (first | (with_reducible first | exact HB.out | apply below_alloc | apply pw_below_drewN | apply below_drew1) | exact HB.out)) hb); clear HO_5; clear HO_6; clear HL198_0; clear HL200_0; clear HR198_0; clear HR200_0; clear HB; have HO_5 := n0_; have HO_6 := n1_; have HL198_0 := n2_; have HL200_0 := n3_; have HO204 := n4_; have HR198_0 := n5_; have HR200_0 := n6_; have HB := n7_; clear n0_ n1_ n2_ n3_ n4_ n5_ n6_ n7_; (try clear hb); (try clear hb2); (try clear hk); (try clear hi); (try clear ho0); obtain ⟨Ao23, co23, eo23⟩ := Kd.R_slice HO204.out; subst eo23) | (go_at_call 46; (with_reducible refine (loop_turned.calls _ _ t202 t205 _ ?side1 ?side2 A20.out).mono ?_); (case side1 => repeat (first | exact (Kd.R_reads' HO204.out).2.2 | (with_reducible refine Kd.C_alloc ?_ _) | (with_reducible refine Kd.C_drewN ?_ _) | (with_reducible refine Kd.C_drew ?_))); (case side2 => exact (Kd.R_reads' HO204.out).2.1); rintro e w24 ⟨v206, rfl, ho0, hb⟩; have n0_ := Aside0.mk (Kd.N_elder' (by (with_reducible repeat (first | apply Kd.N_alloc | apply Kd.N_drewN | apply Kd.N_drew)); exact HO_5.out) (Kd.R_base ho0) hb); have n1_ := Aside0.mk (Kd.N_elder' (by (with_reducible repeat (first | apply Kd.N_alloc | apply Kd.N_drewN | apply Kd.N_drew)); exact HO_6.out) (Kd.R_base ho0) hb); have n2_ := Aside0.mk (Kd.V_elder' (by (with_reducible repeat (first | apply Kd.V_alloc | apply Kd.V_drewN | apply Kd.V_drew)); exact HL198_0.out) (Kd.R_base ho0) hb); have n3_ := Aside0.mk (Kd.V_elder' (by (with_reducible repeat (first | apply Kd.V_alloc | apply Kd.V_drewN | apply Kd.V_drew)); exact HL200_0.out) (Kd.R_base ho0) hb); have n4_ := Aside0.mk (Kd.R_elder' (by (with_reducible repeat (first | apply Kd.R_alloc | apply Kd.R_drewN | apply Kd.R_drew)); exact HO204.out) (Kd.R_base ho0) hb); have n5_ := Aside0.mk (Kd.R_lower (Kd.R_new' ho0 (Kd.R_lt (by (with_reducible repeat (first | apply Kd.R_alloc | apply Kd.R_drewN | apply Kd.R_drew)); exact HO204.out))) (below_size (by repeat (first | (with_reducible first | exact HB.out | apply below_alloc | apply pw_below_drewN | apply below_drew1) | exact HB.out)))); have n6_ := Aside0.mk (Kd.C_below (by repeat (first | (with_reducible exact HR198_0.out) | (with_reducible refine Kd.C_alloc ?_ _) | (with_reducible refine Kd.C_drewN ?_ _) | (with_reducible refine Kd.C_drew ?_) | exact HR198_0.out)) hb); have n7_ := Aside0.mk (Kd.C_below (by repeat (first | (with_reducible exact HR200_0.out) | (with_reducible refine Kd.C_alloc ?_ _) | (with_reducible refine Kd.C_drewN ?_ _) | (with_reducible refine Kd.C_drew ?_) | exact HR200_0.out)) hb); have n8_ := Aside0.mk (below_step (by repeat (first | (with_reducible first | exact HB.out | apply below_alloc | apply pw_below_drewN | apply below_drew1) | exact HB.out)) hb); clear HO_5; clear HO_6; clear HL198_0; clear HL200_0; clear HO204; clear HR198_0; clear HR200_0; clear HB; have HO_5 := n0_; have HO_6 := n1_; have HL198_0 := n2_; have HL200_0 := n3_; have HO204 := n4_; have HO207 := n5_; have HR198_0 := n6_; have HR200_0 := n7_; have HB := n8_; clear n0_ n1_ n2_ n3_ n4_ n5_ n6_ n7_ n8_; (try clear hb); (try clear hb2); (try clear hk); (try clear hi); (try clear ho0)))
                          repeat (go_quiet (first | (go_at_call 47; (with_reducible refine (loop_back.calls k1 x18_1 _ _ t195 _ _ l1 t202 _ ?side1 ?side2 ?side3 ?side4 A19.out).mono ?_); (case side1 => repeat (first | exact (Kd.N_reads' HO_6.out).2.2 | (with_reducible refine Kd.C_alloc ?_ _) | (with_reducible refine Kd.C_drewN ?_ _) | (with_reducible refine Kd.C_drew ?_))); (case side2 => exact (Kd.N_reads' HO_6.out).2.1); (case side3 => repeat (first | exact (Kd.C_below HR1.out HB.out) | (with_reducible refine Kd.C_alloc ?_ _) | (with_reducible refine Kd.C_drewN ?_ _) | (with_reducible refine Kd.C_drew ?_))); (case side4 => exact HC1.out); rintro e w22 ⟨v203, rfl, ho0, hb⟩; have n0_ := Aside0.mk (Kd.N_elder' (by (with_reducible repeat (first | apply Kd.N_alloc | apply Kd.N_drewN | apply Kd.N_drew)); exact HO_5.out) (Kd.R_base ho0) hb); have n1_ := Aside0.mk (Kd.N_elder' (by (with_reducible repeat (first | apply Kd.N_alloc | apply Kd.N_drewN | apply Kd.N_drew)); exact HO_6.out) (Kd.R_base ho0) hb); have n2_ := Aside0.mk (Kd.V_elder' (by (with_reducible repeat (first | apply Kd.V_alloc | apply Kd.V_drewN | apply Kd.V_drew)); exact HL198_0.out) (Kd.R_base ho0) hb); have n3_ := Aside0.mk (Kd.V_elder' (by (with_reducible repeat (first | apply Kd.V_alloc | apply Kd.V_drewN | apply Kd.V_drew)); exact HL200_0.out) (Kd.R_base ho0) hb); have n4_ := Aside0.mk (Kd.R_lower ho0 (below_size (by repeat (first | (with_reducible first | exact HB.out | apply below_alloc | apply pw_below_drewN | apply below_drew1) | exact HB.out)))); have n5_ := Aside0.mk (Kd.C_below (by repeat (first | (with_reducible exact HR198_0.out) | (with_reducible refine Kd.C_alloc ?_ _) | (with_reducible refine Kd.C_drewN ?_ _) | (with_reducible refine Kd.C_drew ?_) | exact HR198_0.out)) hb); have n6_ := Aside0.mk (Kd.C_below (by repeat (first | (with_reducible exact HR200_0.out) | (with_reducible refine Kd.C_alloc ?_ _) | (with_reducible refine Kd.C_drewN ?_ _) | (with_reducible refine Kd.C_drew ?_) | exact HR200_0.out)) hb); have n7_ := Aside0.mk (below_step (by repeat (first | (with_reducible first | exact HB.out | apply below_alloc | apply pw_below_drewN | apply below_drew1) | exact HB.out)) hb); clear HO_5; clear HO_6; clear HL198_0; clear HL200_0; clear HR198_0; clear HR200_0; clear HB; have HO_5 := n0_; have HO_6 := n1_; have HL198_0 := n2_; have HL200_0 := n3_; have HO204 := n4_; have HR198_0 := n5_; have HR200_0 := n6_; have HB := n7_; clear n0_ n1_ n2_ n3_ n4_ n5_ n6_ n7_; (try clear hb); (try clear hb2); (try clear hk); (try clear hi); (try clear ho0); obtain ⟨Ao23, co23, eo23⟩ := Kd.R_slice HO204.out; subst eo23) | (go_at_call 46; (with_reducible refine (loop_turned.calls _ _ t202 t205 _ ?side1 ?side2 A20.out).mono ?_); (case side1 => repeat (first | exact (Kd.R_reads' HO204.out).2.2 | (with_reducible refine Kd.C_alloc ?_ _) | (with_reducible refine Kd.C_drewN ?_ _) | (with_reducible refine Kd.C_drew ?_))); (case side2 => exact (Kd.R_reads' HO204.out).2.1); rintro e w24 ⟨v206, rfl, ho0, hb⟩; have n0_ := Aside0.mk (Kd.N_elder' (by (with_reducible repeat (first | apply Kd.N_alloc | apply Kd.N_drewN | apply Kd.N_drew)); exact HO_5.out) (Kd.R_base ho0) hb); have n1_ := Aside0.mk (Kd.N_elder' (by (with_reducible repeat (first | apply Kd.N_alloc | apply Kd.N_drewN | apply Kd.N_drew)); exact HO_6.out) (Kd.R_base ho0) hb); have n2_ := Aside0.mk (Kd.V_elder' (by (with_reducible repeat (first | apply Kd.V_alloc | apply Kd.V_drewN | apply Kd.V_drew)); exact HL198_0.out) (Kd.R_base ho0) hb); have n3_ := Aside0.mk (Kd.V_elder' (by (with_reducible repeat (first | apply Kd.V_alloc | apply Kd.V_drewN | apply Kd.V_drew)); exact HL200_0.out) (Kd.R_base ho0) hb); have n4_ := Aside0.mk (Kd.R_elder' (by (with_reducible repeat (first | apply Kd.R_alloc | apply Kd.R_drewN | apply Kd.R_drew)); exact HO204.out) (Kd.R_base ho0) hb); have n5_ := Aside0.mk (Kd.R_lower (Kd.R_new' ho0 (Kd.R_lt (by (with_reducible repeat (first | apply Kd.R_alloc | apply Kd.R_drewN | apply Kd.R_drew)); exact HO204.out))) (below_size (by repeat (first | (with_reducible first | exact HB.out | apply below_alloc | apply pw_below_drewN | apply below_drew1) | exact HB.out)))); have n6_ := Aside0.mk (Kd.C_below (by repeat (first | (with_reducible exact HR198_0.out) | (with_reducible refine Kd.C_alloc ?_ _) | (with_reducible refine Kd.C_drewN ?_ _) | (with_reducible refine Kd.C_drew ?_) | exact HR198_0.out)) hb); have n7_ := Aside0.mk (Kd.C_below (by repeat (first | (with_reducible exact HR200_0.out) | (with_reducible refine Kd.C_alloc ?_ _) | (with_reducible refine Kd.C_drewN ?_ _) | (with_reducible refine Kd.C_drew ?_) | exact HR200_0.out)) hb); have n8_ := Aside0.mk (below_step (by repeat (first | (with_reducible first | exact HB.out | apply below_alloc | apply pw_below_drewN | apply below_drew1) | exact HB.out)) hb); clear HO_5; clear HO_6; clear HL198_0; clear HL200_0; clear HO204; clear HR198_0; clear HR200_0; clear HB; have HO_5 := n0_; have HO_6 := n1_; have HL198_0 := n2_; have HL200_0 := n3_; have HO204 := n4_; have HO207 := n5_; have HR198_0 := n6_; have HR200_0 := n7_; have HB := n8_; clear n0_ n1_ n2_ n3_ n4_ n5_ n6_ n7_ n8_; (try clear hb); (try clear hb2); (try clear hk); (try clear hi); (try clear ho0))); try go_wp2_with (first | (go_at_call 47; (with_reducible refine (loop_back.calls k1 x18_1 _ _ t195 _ _ l1 t202 _ ?side1 ?side2 ?side3 ?side4 A19.out).mono ?_); (case side1 => repeat (first | exact (Kd.N_reads' HO_6.out).2.2 | (with_reducible refine Kd.C_alloc ?_ _) | (with_reducible refine Kd.C_drewN ?_ _) | (with_reducible refine Kd.C_drew ?_))); (case side2 => exact (Kd.N_reads' HO_6.out).2.1); (case side3 => repeat (first | exact (Kd.C_below HR1.out HB.out) | (with_reducible refine Kd.C_alloc ?_ _) | (with_reducible refine Kd.C_drewN ?_ _) | (with_reducible refine Kd.C_drew ?_))); (case side4 => exact HC1.out); rintro e w22 ⟨v203, rfl, ho0, hb⟩; have n0_ := Aside0.mk (Kd.N_elder' (by (with_reducible repeat (first | apply Kd.N_alloc | apply Kd.N_drewN | apply Kd.N_drew)); exact HO_5.out) (Kd.R_base ho0) hb); have n1_ := Aside0.mk (Kd.N_elder' (by (with_reducible repeat (first | apply Kd.N_alloc | apply Kd.N_drewN | apply Kd.N_drew)); exact HO_6.out) (Kd.R_base ho0) hb); have n2_ := Aside0.mk (Kd.V_elder' (by (with_reducible repeat (first | apply Kd.V_alloc | apply Kd.V_drewN | apply Kd.V_drew)); exact HL198_0.out) (Kd.R_base ho0) hb); have n3_ := Aside0.mk (Kd.V_elder' (by (with_reducible repeat (first | apply Kd.V_alloc | apply Kd.V_drewN | apply Kd.V_drew)); exact HL200_0.out) (Kd.R_base ho0) hb); have n4_ := Aside0.mk (Kd.R_lower ho0 (below_size (by repeat (first | (with_reducible first | exact HB.out | apply below_alloc | apply pw_below_drewN | apply below_drew1) | exact HB.out)))); have n5_ := Aside0.mk (Kd.C_below (by repeat (first | (with_reducible exact HR198_0.out) | (with_reducible refine Kd.C_alloc ?_ _) | (with_reducible refine Kd.C_drewN ?_ _) | (with_reducible refine Kd.C_drew ?_) | exact HR198_0.out)) hb); have n6_ := Aside0.mk (Kd.C_below (by repeat (first | (with_reducible exact HR200_0.out) | (with_reducible refine Kd.C_alloc ?_ _) | (with_reducible refine Kd.C_drewN ?_ _) | (with_reducible refine Kd.C_drew ?_) | exact HR200_0.out)) hb); have n7_ := Aside0.mk (below_step (by repeat (first | (with_reducible first | exact HB.out | apply below_alloc | apply pw_below_drewN | apply below_drew1) | exact HB.out)) hb); clear HO_5; clear HO_6; clear HL198_0; clear HL200_0; clear HR198_0; clear HR200_0; clear HB; have HO_5 := n0_; have HO_6 := n1_; have HL198_0 := n2_; have HL200_0 := n3_; have HO204 := n4_; have HR198_0 := n5_; have HR200_0 := n6_; have HB := n7_; clear n0_ n1_ n2_ n3_ n4_ n5_ n6_ n7_; (try clear hb); (try clear hb2); (try clear hk); (try clear hi); (try clear ho0); obtain ⟨Ao23, co23, eo23⟩ := Kd.R_slice HO204.out; subst eo23) | (go_at_call 46; (with_reducible refine (loop_turned.calls _ _ t202 t205 _ ?side1 ?side2 A20.out).mono ?_); (case side1 => repeat (first | exact (Kd.R_reads' HO204.out).2.2 | (with_reducible refine Kd.C_alloc ?_ _) | (with_reducible refine Kd.C_drewN ?_ _) | (with_reducible refine Kd.C_drew ?_))); (case side2 => exact (Kd.R_reads' HO204.out).2.1); rintro e w24 ⟨v206, rfl, ho0, hb⟩; have n0_ := Aside0.mk (Kd.N_elder' (by (with_reducible repeat (first | apply Kd.N_alloc | apply Kd.N_drewN | apply Kd.N_drew)); exact HO_5.out) (Kd.R_base ho0) hb); have n1_ := Aside0.mk (Kd.N_elder' (by (with_reducible repeat (first | apply Kd.N_alloc | apply Kd.N_drewN | apply Kd.N_drew)); exact HO_6.out) (Kd.R_base ho0) hb); have n2_ := Aside0.mk (Kd.V_elder' (by (with_reducible repeat (first | apply Kd.V_alloc | apply Kd.V_drewN | apply Kd.V_drew)); exact HL198_0.out) (Kd.R_base ho0) hb); have n3_ := Aside0.mk (Kd.V_elder' (by (with_reducible repeat (first | apply Kd.V_alloc | apply Kd.V_drewN | apply Kd.V_drew)); exact HL200_0.out) (Kd.R_base ho0) hb); have n4_ := Aside0.mk (Kd.R_elder' (by (with_reducible repeat (first | apply Kd.R_alloc | apply Kd.R_drewN | apply Kd.R_drew)); exact HO204.out) (Kd.R_base ho0) hb); have n5_ := Aside0.mk (Kd.R_lower (Kd.R_new' ho0 (Kd.R_lt (by (with_reducible repeat (first | apply Kd.R_alloc | apply Kd.R_drewN | apply Kd.R_drew)); exact HO204.out))) (below_size (by repeat (first | (with_reducible first | exact HB.out | apply below_alloc | apply pw_below_drewN | apply below_drew1) | exact HB.out)))); have n6_ := Aside0.mk (Kd.C_below (by repeat (first | (with_reducible exact HR198_0.out) | (with_reducible refine Kd.C_alloc ?_ _) | (with_reducible refine Kd.C_drewN ?_ _) | (with_reducible refine Kd.C_drew ?_) | exact HR198_0.out)) hb); have n7_ := Aside0.mk (Kd.C_below (by repeat (first | (with_reducible exact HR200_0.out) | (with_reducible refine Kd.C_alloc ?_ _) | (with_reducible refine Kd.C_drewN ?_ _) | (with_reducible refine Kd.C_drew ?_) | exact HR200_0.out)) hb); have n8_ := Aside0.mk (below_step (by repeat (first | (with_reducible first | exact HB.out | apply below_alloc | apply pw_below_drewN | apply below_drew1) | exact HB.out)) hb); clear HO_5; clear HO_6; clear HL198_0; clear HL200_0; clear HO204; clear HR198_0; clear HR200_0; clear HB; have HO_5 := n0_; have HO_6 := n1_; have HL198_0 := n2_; have HL200_0 := n3_; have HO204 := n4_; have HO207 := n5_; have HR198_0 := n6_; have HR200_0 := n7_; have HB := n8_; clear n0_ n1_ n2_ n3_ n4_ n5_ n6_ n7_ n8_; (try clear hb); (try clear hb2); (try clear hk); (try clear hi); (try clear ho0))))
                          go_ret
                          exact ⟨_, by first | rfl | (simp [errW_none, errW_some] <;> rfl) | (simp only [← hji14]; first | rfl | (simp [errW_none, errW_some] <;> rfl)) | (simp [*, errW_none, errW_some] <;> rfl), by (with_reducible repeat (first | apply Kd.R_alloc | apply Kd.R_drewN | apply Kd.R_drew)); exact Kd.R_mono HO207.out (fun _ hk => trivial), by repeat (first | (with_reducible first | exact HB.out | apply below_alloc | apply pw_below_drewN | apply below_drew1) | exact HB.out)⟩
                        · rw [if_neg c18] at H
                          have c18b0 : decide ((rd (rd_L7 t192 a0) x18_1) < (rd (rd_L7 t192 (ji14)) x18_1)) = false := decide_eq_false c18
                          clear c18
                          have H' := Aside0.mk H
                          clear H
                          have p198 : 0 ≤ (a0 : Int) := of_decide_eq_true (by first | (with_reducible assumption) | assumption)
                          have q198 : a0 < (t192.length : Int) := of_decide_eq_true (by first | (with_reducible assumption) | assumption)
                          obtain ⟨ad198, A198_0, c198_0, e198, hx198_0, hl198_0, hi198_0⟩ := at_L7 (Kd.N_reads' HO_5.out).2.2 a0 p198 q198
                          cases e198
                          obtain ⟨ce198, hce198, hMe198, hcc198⟩ := Kd.N_get HO_5.out [] a0 p198 (by first | exact q198 | exact of_decide_eq_true (by first | (with_reducible assumption) | assumption) | (have e_ := (Kd.N_reads' HO_5.out).1; omega))
                          obtain ⟨ua198_0, uc198_0, rfl, ul198_0, ge198_0⟩ := Kd.FK_slice_open hMe198
                          have hv198_0 := hcc198 0 _ rfl
                          rw [Nat.add_zero, show ((Kd.slice 2 (Kd.int .i64))).sz = 1 from rfl, Nat.mul_one] at hv198_0
                          replace hv198_0 := Option.some.inj (hv198_0.symm.trans hx198_0)
                          injection hv198_0 with hva_ hvn_ hvc_
                          rw [hva_] at ge198_0
                          rw [hvc_] at ul198_0
                          have HL198_0 := Aside0.mk (show Kd.V (Kd.int .i64) 2 _ w.heap.size _ _ (rd_L7 t192 a0) from Kd.V_mk ul198_0 ge198_0)
                          clear hva_ hvn_ hvc_ ge198_0 ul198_0
                          clear hcc198 hce198
                          have HR198_0 := Aside0.mk hi198_0
                          have HC198_0 := Aside0.mk hl198_0
                          clear hi198_0 hl198_0
                          replace p198 := eq_true p198
                          replace q198 := eq_true q198
                          have p199 : 0 ≤ (x18_1 : Int) := of_decide_eq_true (by first | (with_reducible assumption) | assumption)
                          have q199 : x18_1 < ((rd_L7 t192 a0).length : Int) := of_decide_eq_true (by first | (with_reducible assumption) | assumption)
                          obtain ⟨ad199, e199, hx199_0⟩ := Kd.at_int (by repeat (first | (with_reducible exact HR198_0.out) | (with_reducible refine Kd.C_alloc ?_ _) | (with_reducible refine Kd.C_drewN ?_ _) | (with_reducible refine Kd.C_drew ?_) | exact HR198_0.out)) x18_1 p199 q199
                          cases e199
                          replace p199 := eq_true p199
                          replace q199 := eq_true q199
                          have p200 : 0 ≤ ((ji14) : Int) := of_decide_eq_true (by first | (with_reducible assumption) | assumption)
                          have q200 : (ji14) < (t192.length : Int) := of_decide_eq_true (by first | (with_reducible assumption) | assumption)
                          obtain ⟨ad200, A200_0, c200_0, e200, hx200_0, hl200_0, hi200_0⟩ := at_L7 (Kd.N_reads' HO_5.out).2.2 (ji14) p200 q200
                          obtain rfl : ad198 = ad200 := (by injection e200)
                          obtain ⟨ce200, hce200, hMe200, hcc200⟩ := Kd.N_get HO_5.out [] (ji14) p200 (by first | exact q200 | exact of_decide_eq_true (by first | (with_reducible assumption) | assumption) | (have e_ := (Kd.N_reads' HO_5.out).1; omega))
                          obtain ⟨ua200_0, uc200_0, rfl, ul200_0, ge200_0⟩ := Kd.FK_slice_open hMe200
                          have hv200_0 := hcc200 0 _ rfl
                          rw [Nat.add_zero, show ((Kd.slice 2 (Kd.int .i64))).sz = 1 from rfl, Nat.mul_one] at hv200_0
                          replace hv200_0 := Option.some.inj (hv200_0.symm.trans hx200_0)
                          injection hv200_0 with hva_ hvn_ hvc_
                          rw [hva_] at ge200_0
                          rw [hvc_] at ul200_0
                          have HL200_0 := Aside0.mk (show Kd.V (Kd.int .i64) 2 _ w.heap.size _ _ (rd_L7 t192 (ji14)) from Kd.V_mk ul200_0 ge200_0)
                          clear hva_ hvn_ hvc_ ge200_0 ul200_0
                          clear hcc200 hce200
                          have HR200_0 := Aside0.mk hi200_0
                          have HC200_0 := Aside0.mk hl200_0
                          clear hi200_0 hl200_0
                          replace p200 := eq_true p200
                          replace q200 := eq_true q200
                          have p201 : 0 ≤ (x18_1 : Int) := of_decide_eq_true (by first | (with_reducible assumption) | assumption)
                          have q201 : x18_1 < ((rd_L7 t192 (ji14)).length : Int) := of_decide_eq_true (by first | (with_reducible assumption) | assumption)
                          obtain ⟨ad201, e201, hx201_0⟩ := Kd.at_int (by repeat (first | (with_reducible exact HR200_0.out) | (with_reducible refine Kd.C_alloc ?_ _) | (with_reducible refine Kd.C_drewN ?_ _) | (with_reducible refine Kd.C_drew ?_) | exact HR200_0.out)) x18_1 p201 q201
                          cases e201
                          replace p201 := eq_true p201
                          replace q201 := eq_true q201
                          go_wp2
                          repeat (go_quiet (fail); try go_wp2)
                          go_roundg k1
                          case measure => have := HK1.out; omega
                          case rel => exact ⟨(wrap64 (x18_1 + 1)), (by first | rfl | (simp; done) | (simp [*]; done)), H', ⟨by have := HK1.out; omega⟩, ⟨by (with_reducible repeat (first | apply Kd.N_alloc | apply Kd.N_drewN | apply Kd.N_drew)); exact HO_5.out⟩, ⟨by (with_reducible repeat (first | apply Kd.N_alloc | apply Kd.N_drewN | apply Kd.N_drew)); exact HO_6.out⟩, ⟨by repeat (first | (with_reducible first | exact HB.out | apply below_alloc | apply pw_below_drewN | apply below_drew1) | exact HB.out)⟩⟩
                      · rw [if_neg c17] at H
                        exact absurd H (by simp)
                    · rw [if_neg c16] at H
                      exact absurd H (by simp)
                  · rw [if_neg c15] at H
                    exact absurd H (by simp)
                · rw [if_neg c13] at H
                  exact absurd H (by simp)
              · rw [if_neg c12] at H
                exact absurd H (by simp)
            · rw [if_neg c11] at H
              exact absurd H (by simp)
          · rw [if_neg c10] at H
            exact absurd H (by simp)
        · rw [if_neg c9] at H
          have c9b0 : decide (x18_1 < a0) = false := decide_eq_false c9
          clear c9
          obtain rfl := Option.some.inj H
          go_wp2
          repeat (go_quiet (fail); try go_wp2)
          go_ret
          exact ⟨_, by first | rfl | (simp [errW_none, errW_some] <;> rfl) | (simp [*, errW_none, errW_some] <;> rfl), by first | exact Kd.R_nil _ _ _ _ _ | exact Kd.N_nil _ _ _ _ _ | exact Kd.V_nil _ _ _ _ _ | exact Kd.Q_nil _ _ _ _ _ | exact Kd.S_nil _ _ _ _ _, by repeat (first | (with_reducible first | exact HB.out | apply below_alloc | apply pw_below_drewN | apply below_drew1) | exact HB.out)⟩

end Go.Proofs.Ytacjlaiddnfpdaa.CE
