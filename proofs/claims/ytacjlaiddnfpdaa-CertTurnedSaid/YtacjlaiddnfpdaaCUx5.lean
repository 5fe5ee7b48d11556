-- WRITTEN FOR THIS CLAIM by wip/tools/mp.py, a program of this project that drives the kit's print; the functions that the print does not take are this project's own texts.
import Derived.Test.YtacjlaiddnfpdaaCUx0
import Derived.Test.YtacjlaiddnfpdaaCUx2
import Derived.Test.YtacjlaiddnfpdaaCUx4
namespace Go.Proofs.Ytacjlaiddnfpdaa.CU
open Go.RowKit Go.Proofs.YtacjlaiddnfpdaaW.PrintWords Go.Proofs.YtacjlaiddnfpdaaW.PrintLast Go.Proofs.YtacjlaiddnfpdaaW.PrintMore
attribute [local go_sem] max2_int min2_int max_two min_two max_three min_three max_four min_four   -- for this text's walks alone
set_option linter.unusedVariables false
set_option linter.unusedSimpArgs false

/-! ### relax_row_int: function 39 -/
def relax_row_int.f (a0 : Int) (a1 : Int) : Option (List Int) := (slices_Repeat_int_int.f (([a1] : List Int)) a0).bind fun t146 => (some t146)
set_option maxHeartbeats 8000000 in
set_option maxRecDepth 100000 in
theorem relax_row_int.calls (a0 : Int) (a1 : Int) (r : List Int) (w : World) (h : relax_row_int.f a0 a1 = some r) :
    Calls Try.prog 39 #[.int .i64 a0, .int .i64 a1] w fun e w' => ∃ v0_ : Value, e = .returned (v0_) ∧ Kd.R (Kd.int .i64) 3 w' w.heap.size (fun _ => True) v0_ r ∧ Below w.heap.size w w' := by
  have HB := Aside0.mk (Below.refl w.heap.size w)
  have H : ((slices_Repeat_int_int.f (([a1] : List Int)) a0).bind fun t146 => (some t146)) = some r := h
  clear h
  obtain ⟨y143, hy143⟩ : ∃ y_ : List Int, y_ = (([a1] : List Int)) := ⟨_, rfl⟩
  replace H : ((slices_Repeat_int_int.f y143 a0).bind fun t146 => (some t146)) = some r := by first | (rw [hy143]; with_reducible exact H) | (have H2_ := (Option.bind_some _ _).symm.trans H; rw [hy143]; with_reducible exact H2_) | (have H2_ := (Option.bind_some _ _).symm.trans H; with_reducible exact H2_) | with_reducible exact H | (rw [hy143]; exact H) | exact H
  have Ny143 := Aside0.mk hy143
  clear hy143
  replace H := Option.bind_eq_some_iff.mp H
  obtain ⟨t146, A30, H⟩ := H
  replace H : (some t146) = some r := H
  have A3 := Aside0.mk A30
  clear A30
  obtain rfl := Option.some.inj H
  go_enter Try.func39, Try.ntmps39
  go_wp2_with (first | ((with_reducible refine gate_dst (N := 6) rfl ?_); refine Kd.R_lit (Kd.int .i64) _ 3 ?hg (N := 6) ?hd (xs := ([a1] : List Int)) (inner := [.int .i64 a1]) (ok := fun _ => True) (okp := fun _ => True) ?hr ?hp (fun _ hk => hk) trivial (Below.refl _ _) (Nat.le_refl _) (by simp) ?_; (case hd => rfl); (case hg => rfl); (case hr => first | (go_simp; done) | (go_simp; rfl)); (case hp => exact (Reps.one (show Kd.M (Kd.int .i64) _ _ _ a1 [.int .i64 a1] from rfl) (Reps.none _ _))); intro v144 w4 ho5 hb hg_ hnew_; clear hg_ hnew_; (first | rw [← Ny143.out] at ho5 | (simp only [Int.reduceToNat] at ho5; rw [← Ny143.out] at ho5)); have n0_ := Aside0.mk (Kd.R_lower ho5 (below_size (by repeat (first | (with_reducible first | exact HB.out | apply below_alloc | apply pw_below_drewN | apply below_drew1) | exact HB.out)))); have n1_ := Aside0.mk (below_step (by repeat (first | (with_reducible first | exact HB.out | apply below_alloc | apply pw_below_drewN | apply below_drew1) | exact HB.out)) hb); clear HB; have HO145 := n0_; have HB := n1_; clear n0_ n1_; clear hb ho5; obtain ⟨Ao6, co6, eo6⟩ := Kd.R_slice HO145.out; subst eo6) | ((with_reducible refine gate_callee (f := 54) rfl ?_); refine goesL_ (some 8) rfl rfl Try.func54 (by kernel_rfl) rfl #[.slice Ao6 y143.length co6, .int .i64 a0] rfl (by (try simp only [List.map_toArray, List.map_cons, List.map_nil]); first | done | rfl | (simp only [List.length_drop, List.length_take]; rfl)) ?_; (with_reducible refine (slices_Repeat_int_int.calls _ _ y143 a0 t146 _ ?side1 ?side2 A3.out).mono ?_); (case side1 => repeat (first | exact (Kd.R_reads' HO145.out).2.2 | (with_reducible refine Kd.C_alloc ?_ _) | (with_reducible refine Kd.C_drewN ?_ _) | (with_reducible refine Kd.C_drew ?_))); (case side2 => exact (Kd.R_reads' HO145.out).2.1); rintro e w7 ⟨v147, rfl, ho0, hb⟩; refine ⟨_, rfl, ?_⟩; have n0_ := Aside0.mk (Kd.R_elder' (by (with_reducible repeat (first | apply Kd.R_alloc | apply Kd.R_drewN | apply Kd.R_drew)); exact HO145.out) (Kd.R_base ho0) hb); have n1_ := Aside0.mk (Kd.R_lower (Kd.R_new' ho0 (Kd.R_lt (by (with_reducible repeat (first | apply Kd.R_alloc | apply Kd.R_drewN | apply Kd.R_drew)); exact HO145.out))) (below_size (by repeat (first | (with_reducible first | exact HB.out | apply below_alloc | apply pw_below_drewN | apply below_drew1) | exact HB.out)))); have n2_ := Aside0.mk (below_step (by repeat (first | (with_reducible first | exact HB.out | apply below_alloc | apply pw_below_drewN | apply below_drew1) | exact HB.out)) hb); clear HO145; clear HB; have HO145 := n0_; have HO148 := n1_; have HB := n2_; clear n0_ n1_ n2_; (try clear hb); (try clear hb2); (try clear hk); (try clear hi); (try clear ho0)))
  go_ret
  exact ⟨_, by first | rfl | (simp [errW_none, errW_some] <;> rfl) | (simp [*, errW_none, errW_some] <;> rfl), by (with_reducible repeat (first | apply Kd.R_alloc | apply Kd.R_drewN | apply Kd.R_drew)); exact Kd.R_mono HO148.out (fun _ hk => trivial), by repeat (first | (with_reducible first | exact HB.out | apply below_alloc | apply pw_below_drewN | apply below_drew1) | exact HB.out)⟩

/-! ### slices_Clone_int64_int64: function 55 -/
def slices_Clone_int64_int64.f (l0 : List Int) : Option (List Int) := if l0.length < 17592186044416 then some l0 else none
theorem slices_Clone_int64_int64_nil : Aside0 (∀ (a : Option Addr) (n c : Nat) (w : World), Sem.run Try.prog (binOp .eql 23 (.slice a n c) (.slice none 0 0)) w = .ok (.bool a.isNone) w) := ⟨fun a n c w => Go.run_eql_slice_nil w 23 2 a n c Try.underlying23⟩
set_option maxHeartbeats 8000000 in
set_option maxRecDepth 100000 in
theorem slices_Clone_int64_int64.calls (A0 : Option Addr) (c0 : Nat) (l0 : List Int) (r : List Int) (w : World) (hr0 : Kd.C (Kd.int .i64) w A0 l0.length l0) (hc0 : l0.length ≤ c0) (h : slices_Clone_int64_int64.f l0 = some r) :
    Calls Try.prog 55 #[.slice A0 l0.length c0] w fun e w' => ∃ v0_ : Value, e = .returned (v0_) ∧ Kd.R (Kd.int .i64) 2 w' w.heap.size (fun _ => True) v0_ r ∧ Below w.heap.size w w' := by
  have HR0 := Aside0.mk hr0
  have HB := Aside0.mk (Below.refl w.heap.size w)
  unfold slices_Clone_int64_int64.f at h
  by_cases hl : l0.length < 17592186044416
  · rw [if_pos hl] at h
    obtain rfl := Option.some.inj h
    have LM := Aside0.mk hl
    clear h hr0 hl
    cases A0 with
    | none =>
      have hn := slices_Clone_int64_int64_nil.out none l0.length c0
      have hnil : l0 = [] := by
        rcases Nat.eq_zero_or_pos l0.length with h0 | h0
        · exact List.eq_nil_of_length_eq_zero h0
        · obtain ⟨ad, e, _⟩ := HR0.out.2.2 h0
          cases e
      have HN := Aside0.mk hnil
      clear hnil
      go_enter Try.func55, Try.ntmps55
      go_wp2
      go_ret
      exact ⟨.slice none 0 0, rfl, by rw [HN.out]; exact Kd.R_nil _ _ _ _ _, HB.out⟩
    | some ad =>
      have hn := slices_Clone_int64_int64_nil.out (some ad) l0.length c0
      go_enter Try.func55, Try.ntmps55
      go_wp2_with (first
        | ((with_reducible refine gate_dst (N := 5) rfl ?_); refine Kd.R_lit (Kd.int .i64) _ 2 ?hg (N := 5) ?hd (xs := []) (inner := []) (ok := fun _ => True) (okp := fun _ => True) ?hr ?hp (fun _ hk => hk) trivial (Below.refl _ _) (Nat.le_refl _) (by simp) ?_; (case hd => rfl); (case hg => rfl); (case hr => first | (go_simp; done) | (go_simp; rfl)); (case hp => exact (Reps.none _ _)); intro v1 w1 ho hb hg_ hnew_; clear hg_ hnew_; have HO1 := Aside0.mk ho; have HB1 := Aside0.mk hb; clear ho hb)
        | (at_builtin; refine Kd.R_append_rows (Kd.int .i64) (w0 := w) w.heap.size rfl (.tmp 5) (.tmp 6) 23 2 (.int .i64 0) 8 rfl Try.underlying23 info2 rfl (by decide) (by omega) v1 [] l0 _ _ _ (fun _ => True) (fun _ => False) rfl rfl HO1.out (Kd.C_below HR0.out HB1.out) (fun _ _ h => h) (fun _ h => h.elim) (fun _ _ => trivial) HB1.out (below_size HB1.out) (by have := LM.out; simp only [List.length_nil]; omega) ?_; intro v2 w2 ho hb hg hat; clear hg hat; have HO2 := Aside0.mk ho; have HB2 := Aside0.mk hb; clear ho hb))
      go_ret
      exact ⟨v2, rfl, HO2.out, HB2.out⟩
  · rw [if_neg hl] at h
    exact absurd h (by simp)


/-! ### relax_next: function 40 -/
def relax_next_go (had : List Int) : List S48 → Int → List Int → List Int → Option (List Int × List Int)
  | [], _, has, by_ => some (has, by_)
  | e :: r, i, has, by_ => if 0 ≤ e.f0 then (if e.f0 < (had.length : Int) then (if 0 ≤ e.f1 then (if e.f1 < (has.length : Int) then (if e.f1 < (by_.length : Int) then (if wrap64 (rd had e.f0 + e.f2) < rd has e.f1 then relax_next_go had r (i + 1) (has.set e.f1.toNat (wrap64 (rd had e.f0 + e.f2))) (by_.set e.f1.toNat i) else relax_next_go had r (i + 1) has by_) else none) else none) else none) else none) else none
def relax_next.f (l0 : List Int) (l1 : List S48) : Option (List Int × List Int) :=
  if l1.length ≤ 1000000 then (slices_Clone_int64_int64.f l0).bind fun has => (relax_row_int.f (l0.length : Int) (-1)).bind fun by_ => relax_next_go l0 l1 0 has by_ else none
structure relax_next_St (w W : World) (v6 v7 : Value) (has by_ : List Int) : Prop where
  below : Below w.heap.size w W
  has : Kd.R (Kd.int .i64) 2 W w.heap.size (fun k => some k ≠ v7.ownBlock) v6 has
  by_ : Kd.R (Kd.int .i64) 3 W w.heap.size (fun k => some k ≠ v6.ownBlock) v7 by_
theorem relax_next_St_below {w W W1 : World} {v6 v7 : Value} {has by_ : List Int} (h : relax_next_St w W v6 v7 has by_) (hb : Below W.heap.size W W1) : relax_next_St w W1 v6 v7 has by_ := ⟨below_step h.below hb, Kd.R_below h.has hb, Kd.R_below h.by_ hb⟩
theorem relax_next_St_put6 {w W : World} {g n c : Nat} {v7 : Value} {has by_ : List Int} (h : relax_next_St w W (.slice (some ⟨g, 0, none⟩) n c) v7 has by_) (hn : n = has.length) (hg : w.heap.size ≤ g) (a x : Int) : relax_next_St w (W.setCell ⟨g, a.toNat, none⟩ (.int .i64 x)) (.slice (some ⟨g, 0, none⟩) n c) v7 (has.set a.toNat x) by_ := by
  subst hn
  exact ⟨below_set h.below hg, (Kd.R_put h.has a x).1, Kd.R_far h.by_ (fun k hk => by simp [Value.ownBlock] at hk; exact hk) _⟩
theorem relax_next_St_put7 {w W : World} {g n c : Nat} {v6 : Value} {has by_ : List Int} (h : relax_next_St w W v6 (.slice (some ⟨g, 0, none⟩) n c) has by_) (hn : n = by_.length) (hg : w.heap.size ≤ g) (a x : Int) : relax_next_St w (W.setCell ⟨g, a.toNat, none⟩ (.int .i64 x)) v6 (.slice (some ⟨g, 0, none⟩) n c) has (by_.set a.toNat x) := by
  subst hn
  exact ⟨below_set h.below hg, Kd.R_far h.has (fun k hk => by simp [Value.ownBlock] at hk; exact hk) _, (Kd.R_put h.by_ a x).1⟩
set_option maxHeartbeats 8000000 in
set_option maxRecDepth 100000 in
theorem relax_next.calls (A0 : Option Addr) (c0 : Nat) (l0 : List Int) (A1 : Option Addr) (c1 : Nat) (l1 : List S48) (r1 : List Int) (r2 : List Int) (w : World) (hr0 : Kd.C (Kd.int .i64) w A0 l0.length l0) (hc0 : l0.length ≤ c0) (hr1 : Kd.C k48 w A1 l1.length l1) (hc1 : l1.length ≤ c1) (h : relax_next.f l0 l1 = some (r1, r2)) :
    Calls Try.prog 40 #[.slice A0 l0.length c0, .slice A1 l1.length c1] w fun e w' => ∃ v0_ v1_ : Value, e = .returned (.tuple #[v0_, v1_]) ∧ Kd.R (Kd.int .i64) 2 w' w.heap.size (fun k_ => (w.heap.size ≤ k_) ∧ some k_ ≠ (v1_ : Value).ownBlock) v0_ r1 ∧ Kd.R (Kd.int .i64) 3 w' w.heap.size (fun k_ => (w.heap.size ≤ k_) ∧ some k_ ≠ (v0_ : Value).ownBlock) v1_ r2 ∧ Below w.heap.size w w' := by
  unfold relax_next.f at h
  by_cases hn : l1.length ≤ 1000000
  case neg => rw [if_neg hn] at h; cases h
  rw [if_pos hn] at h
  obtain ⟨has0, hcl, h⟩ := Option.bind_eq_some_iff.mp h
  obtain ⟨by0, hrw, h⟩ := Option.bind_eq_some_iff.mp h
  have HR0 := Aside0.mk hr0
  have HR1 := Aside0.mk hr1
  have HC0 := Aside0.mk hc0
  have HCL := Aside0.mk hcl
  have HRW := Aside0.mk hrw
  have HH := Aside0.mk h
  have hm0 := Kd.C_max hr0
  clear h hr0 hr1 hcl hrw hc0 hc1
  have hu_ := Try.underlying48
  go_enter Try.func40, Try.ntmps40
  go_wp2_with (first
    | (go_at_call 55; refine (slices_Clone_int64_int64.calls A0 c0 l0 has0 _ HR0.out HC0.out HCL.out).mono ?_; rintro e w1 ⟨v6, rfl, h6, hb1⟩; have H6 := Aside0.mk h6; have HB1 := Aside0.mk hb1; clear h6 hb1)
    | (go_at_call 39; refine (relax_row_int.calls (l0.length : Int) (-1) by0 _ HRW.out).mono ?_; rintro e w2 ⟨v7, rfl, h7, hb2⟩; have HS := Aside0.mk (show relax_next_St w w2 v6 v7 has0 by0 from ⟨below_step HB1.out hb2, Kd.R_mono (Kd.R_elder H6.out h7 hb2) (fun k hk => hk.2), Kd.R_lower (Kd.R_mono (Kd.R_newR h7 H6.out) (fun k hk => hk.2)) HB1.out.size⟩); clear h7 hb2 HB1 H6; obtain ⟨A6, c6, rfl⟩ := Kd.R_slice HS.out.has; obtain ⟨A7, c7, rfl⟩ := Kd.R_slice HS.out.by_))
  go_loopg [18] l1.length (fun d v18 wr => ∃ (i : Nat) (has by_ : List Int), i + d = l1.length ∧ v18 = .int .i64 i ∧ Aside0 (relax_next_go l0 (l1.drop i) (i : Int) has by_ = some (r1, r2)) ∧ Aside0 (has.length = has0.length ∧ by_.length = by0.length) ∧ Aside0 (relax_next_St w wr (.slice A6 has0.length c6) (.slice A7 by0.length c7) has by_))
  case atStart => exact ⟨0, has0, by0, by omega, rfl, HH, ⟨rfl, rfl⟩, HS⟩
  case round =>
    clear HS HH
    obtain ⟨i, has, by_, hi, rfl, HG, HL, HS⟩ := hrel
    by_cases hlt : i < l1.length
    · have hltz : (i : Int) < (l1.length : Int) := by omega
      have HBr := Aside0.mk HS.out.below
      obtain ⟨ad1, e, hx0, hx1, hx2, hx3, hx4, hx5⟩ := at_T48 HR1.out (i : Int) (by omega) hltz
      cases e
      replace hx0 := (HBr.out.cell (World.block_lt_of_cell? w _ hx0)).trans hx0; simp only [Int.toNat_natCast] at hx0
      replace hx1 := (HBr.out.cell (World.block_lt_of_cell? w _ hx1)).trans hx1; simp only [Int.toNat_natCast] at hx1
      replace hx2 := (HBr.out.cell (World.block_lt_of_cell? w _ hx2)).trans hx2; simp only [Int.toNat_natCast] at hx2
      replace hx3 := (HBr.out.cell (World.block_lt_of_cell? w _ hx3)).trans hx3; simp only [Int.toNat_natCast] at hx3
      replace hx4 := (HBr.out.cell (World.block_lt_of_cell? w _ hx4)).trans hx4; simp only [Int.toNat_natCast] at hx4
      replace hx5 := (HBr.out.cell (World.block_lt_of_cell? w _ hx5)).trans hx5; simp only [Int.toNat_natCast] at hx5
      have hy : rd_T48 l1 (i : Int) = l1[i] := by show l1.getD _ _ = _; simp [List.getD_eq_getElem?_getD, List.getElem?_eq_getElem hlt]
      rw [hy] at hx0 hx1 hx2 hx3 hx4 hx5
      have hg := HG.out
      rw [List.drop_eq_getElem_cons hlt] at hg
      clear hy HG
      generalize l1[i] = s at hx0 hx1 hx2 hx3 hx4 hx5 hg
      unfold relax_next_go at hg
      by_cases c1 : 0 ≤ s.f0
      case neg => rw [if_neg c1] at hg; cases hg
      rw [if_pos c1] at hg
      by_cases c2 : s.f0 < (l0.length : Int)
      case neg => rw [if_neg c2] at hg; cases hg
      rw [if_pos c2] at hg
      by_cases c3 : 0 ≤ s.f1
      case neg => rw [if_neg c3] at hg; cases hg
      rw [if_pos c3] at hg
      by_cases c4 : s.f1 < (has.length : Int)
      case neg => rw [if_neg c4] at hg; cases hg
      rw [if_pos c4] at hg
      by_cases c5 : s.f1 < (by_.length : Int)
      case neg => rw [if_neg c5] at hg; cases hg
      rw [if_pos c5] at hg
      obtain ⟨ad0, e, hy0⟩ := Kd.at_int HR0.out s.f0 c1 c2
      cases e
      have hy0' : ∀ o : Obj, (wr.alloc o).cell? (ad0.add s.f0.toNat) = some (.int .i64 (rd l0 s.f0)) := fun o => ((below_alloc HBr.out o).cell (World.block_lt_of_cell? w _ hy0)).trans hy0
      clear hy0
      obtain ⟨g6, cap6, e6, hb6, hl6, _⟩ := Kd.R_form HS.out.has (by omega)
      obtain ⟨g7, cap7, e7, hb7, hl7, _⟩ := Kd.R_form HS.out.by_ (by omega)
      injection e6 with e61 e62 e63
      injection e7 with e71 e72 e73
      subst e61 e63 e71 e73
      have hl6' : s.f1 < (has0.length : Int) := by omega
      have hl7' : s.f1 < (by0.length : Int) := by omega
      have hne67 : g6 ≠ g7 := fun e => by have := HS.out.has.1 g6 (by simp [Value.ownBlock]); simp [Value.ownBlock] at this; exact this e
      have HE62 := Aside0.mk e62
      have HE72 := Aside0.mk e72
      clear e62 e72
      have hR6 := HS.out.has
      have hR7 := HS.out.by_
      rw [HE62.out] at hR6
      rw [HE72.out] at hR7
      have hq6 := (Kd.R_cell (0 : Int) hR6 s.f1 c3 c4).1
      have hq7 := (Kd.R_cell (0 : Int) hR7 s.f1 c3 c5).1
      have hf6 := (Kd.R_cell (0 : Int) hR6 s.f1 c3 c4).2
      have hf7 := (Kd.R_cell (0 : Int) hR7 s.f1 c3 c5).2
      have hq6' : ∀ o : Obj, (wr.alloc o).cell? ⟨g6, s.f1.toNat, none⟩ = some (.int .i64 (rd has s.f1)) := fun o => ((below_alloc (Below.refl wr.heap.size wr) o).cell (p := ⟨g6, s.f1.toNat, none⟩) hl6).trans hq6
      have hf6' : ∀ o : Obj, (wr.alloc o).frozen? ⟨g6, s.f1.toNat, none⟩ = false := fun o => ((below_alloc (Below.refl wr.heap.size wr) o).frozen (p := ⟨g6, s.f1.toNat, none⟩) hl6).trans hf6
      obtain ⟨z7, hz7⟩ : ∃ z7, z7 = Value.int .i64 (rd by_ s.f1) := ⟨_, rfl⟩
      have hq7' : ∀ o : Obj, (wr.alloc o).cell? ⟨g7, s.f1.toNat, none⟩ = some z7 := fun o => by rw [hz7]; exact ((below_alloc (Below.refl wr.heap.size wr) o).cell (p := ⟨g7, s.f1.toNat, none⟩) hl7).trans hq7
      have hf7' : ∀ o : Obj, (wr.alloc o).frozen? ⟨g7, s.f1.toNat, none⟩ = false := fun o => ((below_alloc (Below.refl wr.heap.size wr) o).frozen (p := ⟨g7, s.f1.toNat, none⟩) hl7).trans hf7
      have HR6 := Aside0.mk hR6
      have HR7 := Aside0.mk hR7
      clear hR6 hR7 hq6 hq7 hf6 hf7 hz7
      have HF := Aside0.mk hg
      clear hg
      go_wp2
      go_quiet (fail)
      generalize wrap64 (rd l0 s.f0 + s.f2) = x at HF ⊢
      by_cases c6 : x < rd has s.f1
      · have c6b := decide_eq_true c6
        go_wp2
        obtain ⟨W, hW⟩ : ∃ W, W = ((wr.alloc (.cells #[.int .i64 s.f0, .int .i64 s.f1, .int .i64 s.f2, .int .i64 s.f3.f0, .int .i64 s.f3.f1, .bool s.f4] 48 (0, 0))).drewN nq) := ⟨_, rfl⟩
        have hv1 : W.cell? ⟨wr.heap.size, 1, none⟩ = some (.int .i64 s.f1) := by rw [hW]; exact (blk_cell (blk_new wr _) 1).trans rfl
        have hw6 : W.cell? ⟨g6, s.f1.toNat, none⟩ = some (.int .i64 (rd has s.f1)) := by rw [hW]; exact hq6' _
        have hw7 : W.cell? ⟨g7, s.f1.toNat, none⟩ = some z7 := by rw [hW]; exact hq7' _
        have hfw6 : W.frozen? ⟨g6, s.f1.toNat, none⟩ = false := by rw [hW]; exact hf6' _
        have hfw7 : W.frozen? ⟨g7, s.f1.toNat, none⟩ = false := by rw [hW]; exact hf7' _
        have hn6 : wr.heap.size ≠ g6 := by omega
        have hn7 : wr.heap.size ≠ g7 := by omega
        have hbW : Below wr.heap.size wr W := by rw [hW]; exact pw_below_drewN (below_alloc (Below.refl _ _) _) nq
        rw [← hW]
        have HBW := Aside0.mk hbW
        clear hW hbW hq6' hq7' hf6' hf7' hy0'
        rw [if_pos c6] at HF
        have HFF := HF
        clear HF c6
        have HSW := relax_next_St_below HS.out HBW.out
        have HE1 := Aside0.mk (relax_next_St_put7 (relax_next_St_put6 HSW HE62.out hb6 s.f1 x) HE72.out hb7 s.f1 (i : Int))
        have HE2 := Aside0.mk (relax_next_St_put6 (relax_next_St_put7 HSW HE72.out hb7 s.f1 (i : Int)) HE62.out hb6 s.f1 x)
        have HLN := Aside0.mk (show (has.set s.f1.toNat x).length = has0.length ∧ (by_.set s.f1.toNat (i : Int)).length = by0.length by rw [List.length_set, List.length_set]; exact HL.out)
        have HGN := Aside0.mk (show relax_next_go l0 (l1.drop (i + 1)) ((i + 1 : Nat) : Int) (has.set s.f1.toNat x) (by_.set s.f1.toNat (i : Int)) = some (r1, r2) from HFF.out)
        clear HFF HSW HS
        go_region
        all_goals
          go_wp2_with (fail)
          go_roundg (gk - 1)
          case measure => omega
          case rel => exact ⟨i + 1, _, _, by omega, by go_num, HGN, HLN, ⟨by first | exact HE1.out | exact HE2.out | exact relax_next_St_below HE1.out (below_drew (Below.refl _ _)) | exact relax_next_St_below HE2.out (below_drew (Below.refl _ _))⟩⟩
      · rw [if_neg c6] at HF
        have c6b := decide_eq_false c6
        have HGN := Aside0.mk (show relax_next_go l0 (l1.drop (i + 1)) ((i + 1 : Nat) : Int) has by_ = some (r1, r2) from HF.out)
        clear HF c6
        go_wp2_with (fail)
        go_roundg (gk - 1)
        case measure => omega
        case rel => exact ⟨i + 1, _, _, by omega, by go_num, HGN, HL, ⟨relax_next_St_below HS.out (pw_below_drewN (below_alloc (Below.refl _ _) _) _)⟩⟩
    · have hltz : ¬ (i : Int) < (l1.length : Int) := by omega
      have hg := HG.out
      rw [List.drop_of_length_le (by omega)] at hg
      obtain ⟨h1, h2⟩ := Prod.mk.inj (Option.some.inj (show some (has, by_) = some (r1, r2) from hg))
      subst h1 h2
      clear hg HG
      go_wp2_with (fail)
      have h6 := HS.out.has
      have h7 := HS.out.by_
      exact bodyPost_ret (v := .tuple #[.slice A6 has0.length c6, .slice A7 by0.length c7]) (by simp [results, Try.results40, go_sem]) rfl ⟨_, _, rfl, Kd.R_mono (Kd.R_bound h6) (fun k hk => ⟨hk.2.1, hk.1⟩), Kd.R_mono (Kd.R_bound h7) (fun k hk => ⟨hk.2.1, hk.1⟩), HS.out.below⟩


/-! ### relax_Layers: function 21 -/
def relax_Layers.l0 : Nat → List (S48) → List (List Int) → List (List Int) → Int → Int → Option ((List (List Int)) × (List (List Int)))
  | 0, _, _, _, _, _ => none
  | k + 1, x1, x4, x5, x19, x20 => if x20 < x19 then (if 0 ≤ x20 then (if x20 < (x4.length : Int) then ((relax_next.f (rd_L7 x4 x20) x1).bind fun bt163 => (if x4.length < 5864062014805 then (if x5.length < 5864062014805 then (relax_Layers.l0 k x1 (x4 ++ [bt163.1]) (x5 ++ [bt163.2]) x19 (wrap64 (x20 + 1))) else (none)) else (none))) else (none)) else (none)) else (some (x4, x5))
def relax_Layers.f (k : Nat) (a0 : Int) (l1 : List (S48)) : Option ((List (List Int)) × (List (List Int))) := (relax_May.f a0 l1).bind fun t149 => (if t149 = true then ((relax_row_int64.f a0 0).bind fun t150 => ((relax_row_int.f a0 (-1)).bind fun t156 => (relax_Layers.l0 k l1 (([t150] : List (List Int))) (([t156] : List (List Int))) a0 0))) else (some (([] : List (List Int)), ([] : List (List Int)))))
theorem relax_Layers.mono_l : ∀ k, (∀ y0 y1 y2 y3 y4, LeO (relax_Layers.l0 k y0 y1 y2 y3 y4) (relax_Layers.l0 (k + 1) y0 y1 y2 y3 y4))
  | 0 => fun _ _ _ _ _ r h => by simp [relax_Layers.l0] at h
  | k + 1 => by
    have ih0 := relax_Layers.mono_l k
    · intro y0 y1 y2 y3 y4
      unfold relax_Layers.l0
      repeat' first
      | (with_reducible exact ih0 _ _ _ _ _)
      | (with_reducible exact LeO.refl _)
      | (with_reducible exact LeO.none _)
      | (with_reducible refine LeO.ite ?_ ?_)
      | (with_reducible refine LeO.bind ?_ (fun _ => ?_))
      | exact ih0 _ _ _ _ _
      | exact LeO.none _
      | refine LeO.ite ?_ ?_
      | refine LeO.bind ?_ (fun _ => ?_)
theorem relax_Layers.mono : ∀ a0 a1 k, LeO (relax_Layers.f k a0 a1) (relax_Layers.f (k + 1) a0 a1) := by
  intro a0 a1 k
  have ih0 := relax_Layers.mono_l k
  unfold relax_Layers.f
  repeat' first
      | (with_reducible exact ih0 _ _ _ _ _)
      | (with_reducible exact LeO.refl _)
      | (with_reducible exact LeO.none _)
      | (with_reducible refine LeO.ite ?_ ?_)
      | (with_reducible refine LeO.bind ?_ (fun _ => ?_))
      | exact ih0 _ _ _ _ _
      | exact LeO.none _
      | refine LeO.ite ?_ ?_
      | refine LeO.bind ?_ (fun _ => ?_)
set_option maxHeartbeats 8000000 in
set_option maxRecDepth 100000 in
theorem relax_Layers.calls (k : Nat) (a0 : Int) (A1 : Option Addr) (c1 : Nat) (l1 : List (S48)) (r1 : List (List Int)) (r2 : List (List Int)) (w : World) (hr1 : Kd.C k48 w A1 l1.length l1) (hc1 : l1.length ≤ c1) (h : relax_Layers.f k a0 l1 = some (r1, r2)) :
    Calls Try.prog 21 #[.int .i64 a0, .slice A1 l1.length c1] w fun e w' => ∃ v0_ v1_ : Value, e = .returned (.tuple #[v0_, v1_]) ∧ Kd.N (Kd.slice 2 (Kd.int .i64)) 23 w' w.heap.size (fun k_ => (w.heap.size ≤ k_) ∧ some k_ ≠ (v1_ : Value).ownBlock) v0_ r1 ∧ Kd.N (Kd.slice 3 (Kd.int .i64)) 37 w' w.heap.size (fun k_ => (w.heap.size ≤ k_) ∧ some k_ ≠ (v0_ : Value).ownBlock) v1_ r2 ∧ Below w.heap.size w w' := by
  have HR1 := Aside0.mk hr1
  have HC1 := Aside0.mk hc1
  clear hr1 hc1
  have HB := Aside0.mk (Below.refl w.heap.size w)
  have H : ((relax_May.f a0 l1).bind fun t149 => (if t149 = true then ((relax_row_int64.f a0 0).bind fun t150 => ((relax_row_int.f a0 (-1)).bind fun t156 => (relax_Layers.l0 k l1 (([t150] : List (List Int))) (([t156] : List (List Int))) a0 0))) else (some (([] : List (List Int)), ([] : List (List Int)))))) = some (r1, r2) := h
  clear h
  replace H := Option.bind_eq_some_iff.mp H
  obtain ⟨t149, A30, H⟩ := H
  replace H : (if t149 = true then ((relax_row_int64.f a0 0).bind fun t150 => ((relax_row_int.f a0 (-1)).bind fun t156 => (relax_Layers.l0 k l1 (([t150] : List (List Int))) (([t156] : List (List Int))) a0 0))) else (some (([] : List (List Int)), ([] : List (List Int))))) = some (r1, r2) := H
  have A3 := Aside0.mk A30
  clear A30
  by_cases c4 : t149 = true
  · subst c4
    have H1 : ((relax_row_int64.f a0 0).bind fun t150 => ((relax_row_int.f a0 (-1)).bind fun t156 => (relax_Layers.l0 k l1 (([t150] : List (List Int))) (([t156] : List (List Int))) a0 0))) = some (r1, r2) := by rw [if_pos rfl] at H; exact H
    clear H
    have H := H1
    clear H1
    replace H := Option.bind_eq_some_iff.mp H
    obtain ⟨t150, A50, H⟩ := H
    replace H : ((relax_row_int.f a0 (-1)).bind fun t156 => (relax_Layers.l0 k l1 (([t150] : List (List Int))) (([t156] : List (List Int))) a0 0)) = some (r1, r2) := H
    have A5 := Aside0.mk A50
    clear A50
    obtain ⟨y153, hy153⟩ : ∃ y_ : List (List Int), y_ = (([t150] : List (List Int))) := ⟨_, rfl⟩
    replace H : ((relax_row_int.f a0 (-1)).bind fun t156 => (relax_Layers.l0 k l1 y153 (([t156] : List (List Int))) a0 0)) = some (r1, r2) := by first | (rw [hy153]; with_reducible exact H) | (have H2_ := (Option.bind_some _ _).symm.trans H; rw [hy153]; with_reducible exact H2_) | (have H2_ := (Option.bind_some _ _).symm.trans H; with_reducible exact H2_) | with_reducible exact H | (rw [hy153]; exact H) | exact H
    have Ny153 := Aside0.mk hy153
    clear hy153
    replace H := Option.bind_eq_some_iff.mp H
    obtain ⟨t156, A60, H⟩ := H
    replace H : (relax_Layers.l0 k l1 y153 (([t156] : List (List Int))) a0 0) = some (r1, r2) := H
    have A6 := Aside0.mk A60
    clear A60
    obtain ⟨y159, hy159⟩ : ∃ y_ : List (List Int), y_ = (([t156] : List (List Int))) := ⟨_, rfl⟩
    replace H : (relax_Layers.l0 k l1 y153 y159 a0 0) = some (r1, r2) := by first | (rw [hy159]; with_reducible exact H) | (have H2_ := (Option.bind_some _ _).symm.trans H; rw [hy159]; with_reducible exact H2_) | (have H2_ := (Option.bind_some _ _).symm.trans H; with_reducible exact H2_) | with_reducible exact H | (rw [hy159]; exact H) | exact H
    have Ny159 := Aside0.mk hy159
    clear hy159
    have H' := Aside0.mk H
    clear H
    go_enter Try.func21, Try.ntmps21
    go_wp2_with (first | ((with_reducible refine gate_callee (f := 23) rfl ?_); refine goesL_ (some 11) rfl rfl Try.func23 (by kernel_rfl) rfl #[.int .i64 a0, .slice A1 l1.length c1] rfl (by (try simp only [List.map_toArray, List.map_cons, List.map_nil]); first | done | rfl | (simp only [List.length_drop, List.length_take]; rfl)) ?_; (with_reducible refine (relax_May.calls a0 _ _ l1 true _ ?side1 ?side2 A3.out).mono ?_); (case side1 => repeat (first | exact HR1.out | (with_reducible refine Kd.C_alloc ?_ _) | (with_reducible refine Kd.C_drewN ?_ _) | (with_reducible refine Kd.C_drew ?_))); (case side2 => exact HC1.out); rintro e w7 ⟨rfl, hb⟩; refine ⟨_, rfl, ?_⟩; have n0_ := Aside0.mk (below_step (by repeat (first | (with_reducible first | exact HB.out | apply below_alloc | apply pw_below_drewN | apply below_drew1) | exact HB.out)) hb); clear HB; have HB := n0_; clear n0_; (try clear hb); (try clear hb2); (try clear hk); (try clear hi)) | ((with_reducible refine gate_callee (f := 38) rfl ?_); refine goesL_ (some 14) rfl rfl Try.func38 (by kernel_rfl) rfl #[.int .i64 a0, .int .i64 0] rfl (by (try simp only [List.map_toArray, List.map_cons, List.map_nil]); first | done | rfl | (simp only [List.length_drop, List.length_take]; rfl)) ?_; (with_reducible refine (relax_row_int64.calls a0 0 t150 _ A5.out).mono ?_); rintro e w8 ⟨v151, rfl, ho0, hb⟩; refine ⟨_, rfl, ?_⟩; have n0_ := Aside0.mk (Kd.R_lower (Kd.R_newM (M := fun k_ => (w.heap.size ≤ k_)) ho0 (below_size (by repeat (first | (with_reducible first | exact HB.out | apply below_alloc | apply pw_below_drewN | apply below_drew1) | exact HB.out))) (fun k_ h_ => h_)) (below_size (by repeat (first | (with_reducible first | exact HB.out | apply below_alloc | apply pw_below_drewN | apply below_drew1) | exact HB.out)))); have n1_ := Aside0.mk (below_step (by repeat (first | (with_reducible first | exact HB.out | apply below_alloc | apply pw_below_drewN | apply below_drew1) | exact HB.out)) hb); clear HB; have HO152 := n0_; have HB := n1_; clear n0_ n1_; (try clear hb); (try clear hb2); (try clear hk); (try clear hi); (try clear ho0); obtain ⟨Ao9, co9, eo9⟩ := Kd.R_slice HO152.out; subst eo9) | ((with_reducible refine gate_dst (N := 15) rfl ?_); refine Kd.N_lit (Kd.slice 2 (Kd.int .i64)) _ 23 ?hg (N' := 15) ?hd (xs := ([t150] : List (List Int))) (inner := [.slice Ao9 t150.length co9]) (ok := (fun k_ => (w.heap.size ≤ k_))) (okp := (fun k_ => (w.heap.size ≤ k_))) ?hr ?hp (fun _ hk => hk) ((show ∀ k_, w8.heap.size ≤ k_ → (fun k_ => (w.heap.size ≤ k_)) k_ from fun k_ hk => (Nat.le_trans (below_size (by repeat (first | (with_reducible first | exact HB.out | apply below_alloc | apply pw_below_drewN | apply below_drew1) | exact HB.out))) hk)) _ (Nat.le_refl _)) (Below.refl _ _) (Nat.le_refl _) (by simp) ?_; (case hd => rfl); (case hg => rfl); (case hr => first | (go_simp; done) | (go_simp; rfl)); (case hp => exact (Reps.one (show Kd.FK (Kd.slice 2 (Kd.int .i64)) _ _ t150 [.slice Ao9 t150.length co9] from (Kd.FK_slice_mk (Kd.R_reads' (Kd.R_mono (ok' := (fun k_ => (w.heap.size ≤ k_))) (HO152.out) (fun k_ hk => hk.1))).2.1 (Kd.R_F (Kd.R_mono (ok' := (fun k_ => (w.heap.size ≤ k_))) (HO152.out) (fun k_ hk => hk.1))))) (Reps.none _ _))); intro v154 w10 ho11 hb hg_ hnew_; clear hg_ hnew_; (first | rw [← Ny153.out] at ho11 | (simp only [Int.reduceToNat] at ho11; rw [← Ny153.out] at ho11)); have n0_ := Aside0.mk (Kd.N_lower ho11 (below_size (by repeat (first | (with_reducible first | exact HB.out | apply below_alloc | apply pw_below_drewN | apply below_drew1) | exact HB.out)))); have n1_ := Aside0.mk (below_step (by repeat (first | (with_reducible first | exact HB.out | apply below_alloc | apply pw_below_drewN | apply below_drew1) | exact HB.out)) hb); clear HB; clear HO152; have HO155 := n0_; have HB := n1_; clear n0_ n1_; clear hb ho11) | ((with_reducible refine gate_callee (f := 39) rfl ?_); refine goesL_ (some 17) rfl rfl Try.func39 (by kernel_rfl) rfl #[.int .i64 a0, .int .i64 (-1)] rfl (by (try simp only [List.map_toArray, List.map_cons, List.map_nil]); first | done | rfl | (simp only [List.length_drop, List.length_take]; rfl)) ?_; (with_reducible refine (relax_row_int.calls a0 (-1) t156 _ A6.out).mono ?_); rintro e w12 ⟨v157, rfl, ho0, hb⟩; refine ⟨_, rfl, ?_⟩; have n0_ := Aside0.mk (Kd.N_elder' (by (with_reducible repeat (first | apply Kd.N_alloc | apply Kd.N_drewN | apply Kd.N_drew)); exact HO155.out) (Kd.R_base ho0) hb); have n1_ := Aside0.mk (Kd.R_lower (Kd.R_newM (M := fun k_ => (w.heap.size ≤ k_)) ho0 (below_size (by repeat (first | (with_reducible first | exact HB.out | apply below_alloc | apply pw_below_drewN | apply below_drew1) | exact HB.out))) (fun k_ h_ => h_)) (below_size (by repeat (first | (with_reducible first | exact HB.out | apply below_alloc | apply pw_below_drewN | apply below_drew1) | exact HB.out)))); have n2_ := Aside0.mk (below_step (by repeat (first | (with_reducible first | exact HB.out | apply below_alloc | apply pw_below_drewN | apply below_drew1) | exact HB.out)) hb); clear HO155; clear HB; have HO155 := n0_; have HO158 := n1_; have HB := n2_; clear n0_ n1_ n2_; (try clear hb); (try clear hb2); (try clear hk); (try clear hi); (try clear ho0); obtain ⟨Ao13, co13, eo13⟩ := Kd.R_slice HO158.out; subst eo13) | ((with_reducible refine gate_dst (N := 18) rfl ?_); refine Kd.N_lit (Kd.slice 3 (Kd.int .i64)) _ 37 ?hg (N' := 18) ?hd (xs := ([t156] : List (List Int))) (inner := [.slice Ao13 t156.length co13]) (ok := (fun k_ => (w.heap.size ≤ k_) ∧ some k_ ≠ (v154 : Value).ownBlock)) (okp := (fun k_ => (w.heap.size ≤ k_) ∧ some k_ ≠ (v154 : Value).ownBlock)) ?hr ?hp (fun _ hk => hk) ((show ∀ k_, w12.heap.size ≤ k_ → (fun k_ => (w.heap.size ≤ k_) ∧ some k_ ≠ (v154 : Value).ownBlock) k_ from fun k_ hk => ⟨(Nat.le_trans (below_size (by repeat (first | (with_reducible first | exact HB.out | apply below_alloc | apply pw_below_drewN | apply below_drew1) | exact HB.out))) hk), Kd.fresh' (Kd.N_lt (by (with_reducible repeat (first | apply Kd.N_alloc | apply Kd.N_drewN | apply Kd.N_drew)); exact HO155.out)) k_ hk⟩) _ (Nat.le_refl _)) (Below.refl _ _) (Nat.le_refl _) (by simp) ?_; (case hd => rfl); (case hg => rfl); (case hr => first | (go_simp; done) | (go_simp; rfl)); (case hp => exact (Reps.one (show Kd.FK (Kd.slice 3 (Kd.int .i64)) _ _ t156 [.slice Ao13 t156.length co13] from (Kd.FK_slice_mk (Kd.R_reads' (Kd.R_mono (ok' := (fun k_ => (w.heap.size ≤ k_) ∧ some k_ ≠ (v154 : Value).ownBlock)) (Kd.R_apart' (HO158.out) (Kd.N_typed HO155.out) (by decide)) (fun k_ hk => ⟨hk.1.1, hk.2⟩))).2.1 (Kd.R_F (Kd.R_mono (ok' := (fun k_ => (w.heap.size ≤ k_) ∧ some k_ ≠ (v154 : Value).ownBlock)) (Kd.R_apart' (HO158.out) (Kd.N_typed HO155.out) (by decide)) (fun k_ hk => ⟨hk.1.1, hk.2⟩))))) (Reps.none _ _))); intro v160 w14 ho15 hb hg_ hnew_; clear hg_ hnew_; (first | rw [← Ny159.out] at ho15 | (simp only [Int.reduceToNat] at ho15; rw [← Ny159.out] at ho15)); have n0_ := Aside0.mk (Kd.N_elder' (by (with_reducible repeat (first | apply Kd.N_alloc | apply Kd.N_drewN | apply Kd.N_drew)); exact HO155.out) (Kd.N_base ho15) hb); have n1_ := Aside0.mk (Kd.N_lower ho15 (below_size (by repeat (first | (with_reducible first | exact HB.out | apply below_alloc | apply pw_below_drewN | apply below_drew1) | exact HB.out)))); have n2_ := Aside0.mk (below_step (by repeat (first | (with_reducible first | exact HB.out | apply below_alloc | apply pw_below_drewN | apply below_drew1) | exact HB.out)) hb); clear HO155; clear HB; clear HO158; have HO155 := n0_; have HO161 := n1_; have HB := n2_; clear n0_ n1_ n2_; clear hb ho15))
    go_loopg [4, 5, 20] k (fun kq v4 v5 v20 w' => ∃ (x4_1 : List (List Int)) (x5_1 : List (List Int)) (x20_1 : Int), v20 = .int .i64 x20_1 ∧ Aside0 (relax_Layers.l0 kq l1 x4_1 x5_1 a0 x20_1 = some (r1, r2)) ∧ Aside0 (kq ≤ k) ∧ Aside0 (Kd.N (Kd.slice 2 (Kd.int .i64)) 23 w' w.heap.size (fun k_ => (w.heap.size ≤ k_) ∧ some k_ ≠ (v5 : Value).ownBlock) v4 x4_1) ∧ Aside0 (Kd.N (Kd.slice 3 (Kd.int .i64)) 37 w' w.heap.size (fun k_ => (w.heap.size ≤ k_) ∧ some k_ ≠ (v4 : Value).ownBlock) v5 x5_1) ∧ Aside0 (Below w.heap.size w w'))
    case atStart => exact ⟨(y153), (y159), (0), (by first | rfl | (simp; done) | (simp [*]; done)), H', ⟨Nat.le_refl _⟩, ⟨by (with_reducible repeat (first | apply Kd.N_alloc | apply Kd.N_drewN | apply Kd.N_drew)); exact Kd.N_mono HO155.out (fun _ hk => ⟨hk.1.1, hk.2⟩)⟩, ⟨by (with_reducible repeat (first | apply Kd.N_alloc | apply Kd.N_drewN | apply Kd.N_drew)); exact HO161.out⟩, ⟨by repeat (first | (with_reducible first | exact HB.out | apply below_alloc | apply pw_below_drewN | apply below_drew1) | exact HB.out)⟩⟩
    case round =>
      clear H'
      try clear c1
      try clear c2
      try clear p2
      try clear c3
      try clear c4
      obtain ⟨x4_1, x5_1, x20_1, rfl, HA, HK1, HO_4, HO_5, HB⟩ := hrel
      cases gk with
      | zero => exact absurd HA.out (by simp [relax_Layers.l0])
      | succ k1 =>
        have H := HA.out
        clear HA
        simp only [relax_Layers.l0] at H
        by_cases c16 : x20_1 < a0
        · rw [if_pos c16] at H
          have c16b0 : decide (x20_1 < a0) = true := decide_eq_true c16
          clear c16
          by_cases c17 : 0 ≤ x20_1
          · rw [if_pos c17] at H
            have c17b0 : decide (0 ≤ x20_1) = true := decide_eq_true c17
            clear c17
            by_cases c18 : x20_1 < (x4_1.length : Int)
            · rw [if_pos c18] at H
              have c18b0 : decide (x20_1 < (x4_1.length : Int)) = true := decide_eq_true c18
              clear c18
              replace H := Option.bind_eq_some_iff.mp H
              obtain ⟨⟨t163, t164⟩, A190, H⟩ := H
              replace H : (if x4_1.length < 5864062014805 then (if x5_1.length < 5864062014805 then (relax_Layers.l0 k1 l1 (x4_1 ++ [t163]) (x5_1 ++ [t164]) a0 (wrap64 (x20_1 + 1))) else (none)) else (none)) = some (r1, r2) := H
              have A19 := Aside0.mk A190
              clear A190
              by_cases c20 : x4_1.length < 5864062014805
              · rw [if_pos c20] at H
                have LMc20 := Aside0.mk c20
                clear c20
                obtain ⟨y169, hy169⟩ : ∃ y_ : List (List Int), y_ = (x4_1 ++ [t163]) := ⟨_, rfl⟩
                replace H : (if x5_1.length < 5864062014805 then (relax_Layers.l0 k1 l1 y169 (x5_1 ++ [t164]) a0 (wrap64 (x20_1 + 1))) else (none)) = some (r1, r2) := by first | (rw [hy169]; with_reducible exact H) | (have H2_ := (Option.bind_some _ _).symm.trans H; rw [hy169]; with_reducible exact H2_) | (have H2_ := (Option.bind_some _ _).symm.trans H; with_reducible exact H2_) | with_reducible exact H | (rw [hy169]; exact H) | exact H
                have Ny169 := Aside0.mk hy169
                clear hy169
                by_cases c21 : x5_1.length < 5864062014805
                · rw [if_pos c21] at H
                  have LMc21 := Aside0.mk c21
                  clear c21
                  obtain ⟨y172, hy172⟩ : ∃ y_ : List (List Int), y_ = (x5_1 ++ [t164]) := ⟨_, rfl⟩
                  replace H : (relax_Layers.l0 k1 l1 y169 y172 a0 (wrap64 (x20_1 + 1))) = some (r1, r2) := by first | (rw [hy172]; with_reducible exact H) | (have H2_ := (Option.bind_some _ _).symm.trans H; rw [hy172]; with_reducible exact H2_) | (have H2_ := (Option.bind_some _ _).symm.trans H; with_reducible exact H2_) | with_reducible exact H | (rw [hy172]; exact H) | exact H
                  have Ny172 := Aside0.mk hy172
                  clear hy172
                  have H' := Aside0.mk H
                  clear H
                  obtain ⟨Ao22, co22, eo22⟩ := Kd.N_slice HO_4.out
                  subst eo22
                  have p162 : 0 ≤ (x20_1 : Int) := of_decide_eq_true (by first | (with_reducible assumption) | assumption)
                  have q162 : x20_1 < (x4_1.length : Int) := of_decide_eq_true (by first | (with_reducible assumption) | assumption)
                  obtain ⟨ad162, A162_0, c162_0, e162, hx162_0, hl162_0, hi162_0⟩ := at_L7 (Kd.N_reads' HO_4.out).2.2 x20_1 p162 q162
                  cases e162
                  obtain ⟨ce162, hce162, hMe162, hcc162⟩ := Kd.N_get HO_4.out [] x20_1 p162 (by first | exact q162 | exact of_decide_eq_true (by first | (with_reducible assumption) | assumption) | (have e_ := (Kd.N_reads' HO_4.out).1; omega))
                  obtain ⟨ua162_0, uc162_0, rfl, ul162_0, ge162_0⟩ := Kd.FK_slice_open hMe162
                  have hv162_0 := hcc162 0 _ rfl
                  rw [Nat.add_zero, show ((Kd.slice 2 (Kd.int .i64))).sz = 1 from rfl, Nat.mul_one] at hv162_0
                  replace hv162_0 := Option.some.inj (hv162_0.symm.trans hx162_0)
                  injection hv162_0 with hva_ hvn_ hvc_
                  rw [hva_] at ge162_0
                  rw [hvc_] at ul162_0
                  have HL162_0 := Aside0.mk (show Kd.V (Kd.int .i64) 2 _ w.heap.size _ _ (rd_L7 x4_1 x20_1) from Kd.V_mk ul162_0 ge162_0)
                  clear hva_ hvn_ hvc_ ge162_0 ul162_0
                  clear hcc162 hce162
                  have HR162_0 := Aside0.mk hi162_0
                  have HC162_0 := Aside0.mk hl162_0
                  clear hi162_0 hl162_0
                  replace p162 := eq_true p162
                  replace q162 := eq_true q162
                  go_wp2_with (first | ((with_reducible refine gate_callee (f := 40) rfl ?_); refine goesL_ (some 29) rfl rfl Try.func40 (by kernel_rfl) rfl #[.slice A162_0 (rd_L7 x4_1 x20_1).length c162_0, .slice A1 l1.length c1] rfl (by (try simp only [List.map_toArray, List.map_cons, List.map_nil]); first | done | rfl | (simp only [List.length_drop, List.length_take]; rfl)) ?_; (with_reducible refine (relax_next.calls _ _ (rd_L7 x4_1 x20_1) _ _ l1 t163 t164 _ ?side1 ?side2 ?side3 ?side4 A19.out).mono ?_); (case side1 => repeat (first | exact (by repeat (first | (with_reducible exact HR162_0.out) | (with_reducible refine Kd.C_alloc ?_ _) | (with_reducible refine Kd.C_drewN ?_ _) | (with_reducible refine Kd.C_drew ?_) | exact HR162_0.out)) | (with_reducible refine Kd.C_alloc ?_ _) | (with_reducible refine Kd.C_drewN ?_ _) | (with_reducible refine Kd.C_drew ?_))); (case side2 => exact HC162_0.out); (case side3 => repeat (first | exact (Kd.C_below HR1.out HB.out) | (with_reducible refine Kd.C_alloc ?_ _) | (with_reducible refine Kd.C_drewN ?_ _) | (with_reducible refine Kd.C_drew ?_))); (case side4 => exact HC1.out); rintro e w23 ⟨v165, v167, rfl, ho0, ho1, hb⟩; refine ⟨_, rfl, ?_⟩; have n0_ := Aside0.mk (Kd.N_mono (Kd.N_told (Kd.N_told (Kd.N_old (by (with_reducible repeat (first | apply Kd.N_alloc | apply Kd.N_drewN | apply Kd.N_drew)); exact HO_4.out) hb) (Kd.R_base ho0)) (Kd.R_base ho1)) (fun _ h_ => h_.1)); have n1_ := Aside0.mk (Kd.N_mono (Kd.N_told (Kd.N_told (Kd.N_old (by (with_reducible repeat (first | apply Kd.N_alloc | apply Kd.N_drewN | apply Kd.N_drew)); exact HO_5.out) hb) (Kd.R_base ho0)) (Kd.R_base ho1)) (fun _ h_ => h_.1)); have n2_ := Aside0.mk (Kd.V_mono (Kd.V_told (Kd.V_told (Kd.V_old (by (with_reducible repeat (first | apply Kd.V_alloc | apply Kd.V_drewN | apply Kd.V_drew)); exact HL162_0.out) hb) (Kd.R_base ho0)) (Kd.R_base ho1)) (fun _ h_ => h_.1)); have n3_ := Aside0.mk (Kd.R_lower (Kd.R_newM (M := fun k_ => (w.heap.size ≤ k_)) ho0 (below_size (by repeat (first | (with_reducible first | exact HB.out | apply below_alloc | apply pw_below_drewN | apply below_drew1) | exact HB.out))) (fun k_ h_ => h_)) (below_size (by repeat (first | (with_reducible first | exact HB.out | apply below_alloc | apply pw_below_drewN | apply below_drew1) | exact HB.out)))); have n4_ := Aside0.mk (Kd.R_lower (Kd.R_newM (M := fun k_ => (w.heap.size ≤ k_)) ho1 (below_size (by repeat (first | (with_reducible first | exact HB.out | apply below_alloc | apply pw_below_drewN | apply below_drew1) | exact HB.out))) (fun k_ h_ => h_)) (below_size (by repeat (first | (with_reducible first | exact HB.out | apply below_alloc | apply pw_below_drewN | apply below_drew1) | exact HB.out)))); have n5_ := Aside0.mk (Kd.C_below (by repeat (first | (with_reducible exact HR162_0.out) | (with_reducible refine Kd.C_alloc ?_ _) | (with_reducible refine Kd.C_drewN ?_ _) | (with_reducible refine Kd.C_drew ?_) | exact HR162_0.out)) hb); have n6_ := Aside0.mk (below_step (by repeat (first | (with_reducible first | exact HB.out | apply below_alloc | apply pw_below_drewN | apply below_drew1) | exact HB.out)) hb); clear HO_4; clear HO_5; clear HL162_0; clear HR162_0; clear HB; have HO_4 := n0_; have HO_5 := n1_; have HL162_0 := n2_; have HO166 := n3_; have HO168 := n4_; have HR162_0 := n5_; have HB := n6_; clear n0_ n1_ n2_ n3_ n4_ n5_ n6_; (try clear hb); (try clear hb2); (try clear hk); (try clear hi); (try clear ho0); (try clear ho1); obtain ⟨Ao25, co25, eo25⟩ := Kd.R_slice HO166.out; subst eo25) | ((with_reducible refine gate_builtin (b := .append) (xs := #[.tmp 32, .tmp 34]) rfl ?_); at_builtin; refine Kd.N_append (Kd.slice 2 (Kd.int .i64)) (w0 := w) w.heap.size rfl (.tmp 32) (.tmp 34) 30 23 (.slice none 0 0) 24 rfl Try.underlying30 info23 rfl (by decide) (by omega) (.slice (some ad162) x4_1.length co22) x4_1 t163 [.slice Ao25 t163.length co25] (fun k_ => (w.heap.size ≤ k_) ∧ some k_ ≠ (u5 : Value).ownBlock ∧ some k_ ≠ (v167 : Value).ownBlock) (fun k_ => ((fun k_ => (w.heap.size ≤ k_) ∧ some k_ ≠ (u5 : Value).ownBlock ∧ some k_ ≠ (v167 : Value).ownBlock)) k_ ∧ some k_ ≠ (.slice (some ad162) x4_1.length co22 : Value).ownBlock) rfl rfl ?aP (fun _ hk => hk) ?aF ?aO ?aB ?aS ?aL ?_; (case aP => exact (Kd.FK_slice_mk (Kd.R_reads' (Kd.R_mono (ok' := (fun k_ => ((fun k_ => (w.heap.size ≤ k_) ∧ some k_ ≠ (u5 : Value).ownBlock ∧ some k_ ≠ (v167 : Value).ownBlock)) k_ ∧ some k_ ≠ (.slice (some ad162) x4_1.length co22 : Value).ownBlock)) (Kd.R_apart' (Kd.R_apart' (Kd.R_apart' (HO166.out) (Kd.N_typed HO_5.out) (by decide)) (Kd.R_typed HO168.out) (by decide)) (Kd.N_typed HO_4.out) (by decide)) (fun k_ hk => ⟨⟨hk.1.1.1.1, ⟨hk.1.1.2, hk.1.2⟩⟩, hk.2⟩))).2.1 (Kd.R_F (Kd.R_mono (ok' := (fun k_ => ((fun k_ => (w.heap.size ≤ k_) ∧ some k_ ≠ (u5 : Value).ownBlock ∧ some k_ ≠ (v167 : Value).ownBlock)) k_ ∧ some k_ ≠ (.slice (some ad162) x4_1.length co22 : Value).ownBlock)) (Kd.R_apart' (Kd.R_apart' (Kd.R_apart' (HO166.out) (Kd.N_typed HO_5.out) (by decide)) (Kd.R_typed HO168.out) (by decide)) (Kd.N_typed HO_4.out) (by decide)) (fun k_ hk => ⟨⟨hk.1.1.1.1, ⟨hk.1.1.2, hk.1.2⟩⟩, hk.2⟩))))); (case aB => exact (by repeat (first | (with_reducible first | exact HB.out | apply below_alloc | apply pw_below_drewN | apply below_drew1) | exact HB.out))); (case aF => exact (fun k_ hk => ⟨(Nat.le_trans (below_size (by repeat (first | (with_reducible first | exact HB.out | apply below_alloc | apply pw_below_drewN | apply below_drew1) | exact HB.out))) hk), Kd.fresh' (Kd.N_lt (by (with_reducible repeat (first | apply Kd.N_alloc | apply Kd.N_drewN | apply Kd.N_drew)); exact HO_5.out)) k_ hk, Kd.fresh' (Kd.R_lt (by (with_reducible repeat (first | apply Kd.R_alloc | apply Kd.R_drewN | apply Kd.R_drew)); exact HO168.out)) k_ hk⟩)); (case aO => exact (by (with_reducible repeat (first | apply Kd.N_alloc | apply Kd.N_drewN | apply Kd.N_drew)); exact Kd.N_mono HO_4.out (fun _ hk => ⟨hk.1.1.1, ⟨hk.1.1.2, hk.2⟩⟩))); (case aS => exact (below_size (by repeat (first | (with_reducible first | exact HB.out | apply below_alloc | apply pw_below_drewN | apply below_drew1) | exact HB.out)))); (case aL => have := LMc20.out; omega); intro v170 w24 ho hb hg hat; rw [← Ny169.out] at ho; have n0_ := Aside0.mk (Kd.N_afterv (ok := (fun k_ => (w.heap.size ≤ k_) ∧ some k_ ≠ (.slice Ao25 t163.length co25 : Value).ownBlock ∧ some k_ ≠ (v167 : Value).ownBlock)) (by (with_reducible repeat (first | apply Kd.N_alloc | apply Kd.N_drewN | apply Kd.N_drew)); exact Kd.N_mono HO_5.out (fun _ hk => ⟨⟨hk.1.1.1, ⟨hk.1.2, hk.2⟩⟩, hk.1.1.2⟩)) hg hat); have n1_ := Aside0.mk (Kd.V_afterv (ok := (fun k_ => (w.heap.size ≤ k_) ∧ some k_ ≠ (u5 : Value).ownBlock ∧ some k_ ≠ (.slice Ao25 t163.length co25 : Value).ownBlock ∧ some k_ ≠ (v167 : Value).ownBlock)) (by (with_reducible repeat (first | apply Kd.V_alloc | apply Kd.V_drewN | apply Kd.V_drew)); exact Kd.V_mono HL162_0.out (fun _ hk => ⟨⟨hk.1.1.1.1, ⟨hk.1.1.1.2, ⟨hk.1.2, hk.2⟩⟩⟩, hk.1.1.2⟩)) hg hat); have n2_ := Aside0.mk (Kd.R_over' (by (with_reducible repeat (first | apply Kd.R_alloc | apply Kd.R_drewN | apply Kd.R_drew)); exact HO168.out) (Kd.N_typed (by (with_reducible repeat (first | apply Kd.N_alloc | apply Kd.N_drewN | apply Kd.N_drew)); exact HO_4.out)) (by decide) hg); have n3_ := Aside0.mk (hb); have n4_ := Aside0.mk (ho); clear HO_5; clear HL162_0; clear HO168; clear HB; clear HO_4; clear HO166; have HO_5 := n0_; have HL162_0 := n1_; have HO168 := n2_; have HB := n3_; have HO171 := n4_; clear n0_ n1_ n2_ n3_ n4_; clear ho hb hg hat; obtain ⟨Ao27, co27, eo27⟩ := Kd.R_slice HO168.out; subst eo27) | ((with_reducible refine gate_builtin (b := .append) (xs := #[.tmp 36, .tmp 38]) rfl ?_); at_builtin; refine Kd.N_append (Kd.slice 3 (Kd.int .i64)) (w0 := w) w.heap.size rfl (.tmp 36) (.tmp 38) 31 37 (.slice none 0 0) 24 rfl Try.underlying31 info37 rfl (by decide) (by omega) u5 x5_1 t164 [.slice Ao27 t164.length co27] (fun k_ => (w.heap.size ≤ k_) ∧ some k_ ≠ (v170 : Value).ownBlock) (fun k_ => ((fun k_ => (w.heap.size ≤ k_) ∧ some k_ ≠ (v170 : Value).ownBlock)) k_ ∧ some k_ ≠ (u5 : Value).ownBlock) rfl rfl ?aP (fun _ hk => hk) ?aF ?aO ?aB ?aS ?aL ?_; (case aP => exact (Kd.FK_slice_mk (Kd.R_reads' (Kd.R_mono (ok' := (fun k_ => ((fun k_ => (w.heap.size ≤ k_) ∧ some k_ ≠ (v170 : Value).ownBlock)) k_ ∧ some k_ ≠ (u5 : Value).ownBlock)) (Kd.R_apart' (Kd.R_apart' (HO168.out) (Kd.N_typed HO171.out) (by decide)) (Kd.N_typed HO_5.out) (by decide)) (fun k_ hk => ⟨⟨hk.1.1.1, hk.1.2⟩, hk.2⟩))).2.1 (Kd.R_F (Kd.R_mono (ok' := (fun k_ => ((fun k_ => (w.heap.size ≤ k_) ∧ some k_ ≠ (v170 : Value).ownBlock)) k_ ∧ some k_ ≠ (u5 : Value).ownBlock)) (Kd.R_apart' (Kd.R_apart' (HO168.out) (Kd.N_typed HO171.out) (by decide)) (Kd.N_typed HO_5.out) (by decide)) (fun k_ hk => ⟨⟨hk.1.1.1, hk.1.2⟩, hk.2⟩))))); (case aB => exact (by repeat (first | (with_reducible first | exact HB.out | apply below_alloc | apply pw_below_drewN | apply below_drew1) | exact HB.out))); (case aF => exact (fun k_ hk => ⟨(Nat.le_trans (below_size (by repeat (first | (with_reducible first | exact HB.out | apply below_alloc | apply pw_below_drewN | apply below_drew1) | exact HB.out))) hk), Kd.fresh' (Kd.N_lt (by (with_reducible repeat (first | apply Kd.N_alloc | apply Kd.N_drewN | apply Kd.N_drew)); exact HO171.out)) k_ hk⟩)); (case aO => exact (by (with_reducible repeat (first | apply Kd.N_alloc | apply Kd.N_drewN | apply Kd.N_drew)); exact Kd.N_mono HO_5.out (fun _ hk => ⟨hk.1.1, hk.2⟩))); (case aS => exact (below_size (by repeat (first | (with_reducible first | exact HB.out | apply below_alloc | apply pw_below_drewN | apply below_drew1) | exact HB.out)))); (case aL => have := LMc21.out; omega); intro v173 w26 ho hb hg hat; rw [← Ny172.out] at ho; have n0_ := Aside0.mk (Kd.V_afterv (ok := (fun k_ => (w.heap.size ≤ k_) ∧ some k_ ≠ (.slice Ao27 t164.length co27 : Value).ownBlock ∧ some k_ ≠ (v170 : Value).ownBlock)) (by (with_reducible repeat (first | apply Kd.V_alloc | apply Kd.V_drewN | apply Kd.V_drew)); exact Kd.V_mono HL162_0.out (fun _ hk => ⟨⟨hk.1.1, ⟨hk.1.2.2.2, hk.2⟩⟩, hk.1.2.1⟩)) hg hat); have n1_ := Aside0.mk (Kd.N_afterv (ok := (fun k_ => (w.heap.size ≤ k_) ∧ some k_ ≠ (.slice Ao27 t164.length co27 : Value).ownBlock)) (by (with_reducible repeat (first | apply Kd.N_alloc | apply Kd.N_drewN | apply Kd.N_drew)); exact Kd.N_mono HO171.out (fun _ hk => ⟨⟨hk.1, hk.2.2⟩, hk.2.1⟩)) hg hat); have n2_ := Aside0.mk (hb); have n3_ := Aside0.mk (ho); clear HL162_0; clear HO171; clear HB; clear HO_5; clear HO168; have HL162_0 := n0_; have HO171 := n1_; have HB := n2_; have HO174 := n3_; clear n0_ n1_ n2_ n3_; clear ho hb hg hat))
                  go_roundg k1
                  case measure => have := HK1.out; omega
                  case rel => exact ⟨(y169), (y172), (wrap64 (x20_1 + 1)), (by first | rfl | (simp; done) | (simp [*]; done)), H', ⟨by have := HK1.out; omega⟩, ⟨by (with_reducible repeat (first | apply Kd.N_alloc | apply Kd.N_drewN | apply Kd.N_drew)); exact Kd.N_mono HO171.out (fun _ hk => ⟨hk.1.1, hk.2⟩)⟩, ⟨by (with_reducible repeat (first | apply Kd.N_alloc | apply Kd.N_drewN | apply Kd.N_drew)); exact HO174.out⟩, ⟨by repeat (first | (with_reducible first | exact HB.out | apply below_alloc | apply pw_below_drewN | apply below_drew1) | exact HB.out)⟩⟩
                · rw [if_neg c21] at H
                  exact absurd H (by simp)
              · rw [if_neg c20] at H
                exact absurd H (by simp)
            · rw [if_neg c18] at H
              exact absurd H (by simp)
          · rw [if_neg c17] at H
            exact absurd H (by simp)
        · rw [if_neg c16] at H
          have c16b0 : decide (x20_1 < a0) = false := decide_eq_false c16
          clear c16
          simp only [Option.some.injEq, Prod.mk.injEq] at H
          obtain ⟨rfl, rfl⟩ := H
          go_wp2
          go_ret2
          exact ⟨_, _, by first | rfl | (simp [errW_none, errW_some] <;> rfl) | (simp [*, errW_none, errW_some] <;> rfl), by (with_reducible repeat (first | apply Kd.N_alloc | apply Kd.N_drewN | apply Kd.N_drew)); exact HO_4.out, by (with_reducible repeat (first | apply Kd.N_alloc | apply Kd.N_drewN | apply Kd.N_drew)); exact HO_5.out, by repeat (first | (with_reducible first | exact HB.out | apply below_alloc | apply pw_below_drewN | apply below_drew1) | exact HB.out)⟩
  · replace c4 := Bool.eq_false_iff.mpr c4
    subst c4
    have H1 : (some (([] : List (List Int)), ([] : List (List Int)))) = some (r1, r2) := by rw [if_neg (show ¬ (false = true) by decide)] at H; exact H
    clear H
    have H := H1
    clear H1
    simp only [Option.some.injEq, Prod.mk.injEq] at H
    obtain ⟨rfl, rfl⟩ := H
    go_enter Try.func21, Try.ntmps21
    go_wp2_with (first | ((with_reducible refine gate_callee (f := 23) rfl ?_); refine goesL_ (some 11) rfl rfl Try.func23 (by kernel_rfl) rfl #[.int .i64 a0, .slice A1 l1.length c1] rfl (by (try simp only [List.map_toArray, List.map_cons, List.map_nil]); first | done | rfl | (simp only [List.length_drop, List.length_take]; rfl)) ?_; (with_reducible refine (relax_May.calls a0 _ _ l1 false _ ?side1 ?side2 A3.out).mono ?_); (case side1 => repeat (first | exact HR1.out | (with_reducible refine Kd.C_alloc ?_ _) | (with_reducible refine Kd.C_drewN ?_ _) | (with_reducible refine Kd.C_drew ?_))); (case side2 => exact HC1.out); rintro e w28 ⟨rfl, hb⟩; refine ⟨_, rfl, ?_⟩; have n0_ := Aside0.mk (below_step (by repeat (first | (with_reducible first | exact HB.out | apply below_alloc | apply pw_below_drewN | apply below_drew1) | exact HB.out)) hb); clear HB; have HB := n0_; clear n0_; (try clear hb); (try clear hb2); (try clear hk); (try clear hi)))
    go_ret2
    exact ⟨_, _, by first | rfl | (simp [errW_none, errW_some] <;> rfl) | (simp [*, errW_none, errW_some] <;> rfl), by first | exact Kd.S_nil _ _ _ _ _ | exact Kd.N_nil _ _ _ _ _ | exact Kd.V_nil _ _ _ _ _ | exact Kd.Q_nil _ _ _ _ _ | exact Kd.R_nil _ _ _ _ _, by first | exact Kd.S_nil _ _ _ _ _ | exact Kd.N_nil _ _ _ _ _ | exact Kd.V_nil _ _ _ _ _ | exact Kd.Q_nil _ _ _ _ _ | exact Kd.R_nil _ _ _ _ _, by repeat (first | (with_reducible first | exact HB.out | apply below_alloc | apply pw_below_drewN | apply below_drew1) | exact HB.out)⟩

/-! ### api_Edge_66: function 66 -/
def api_Edge_66.f (l0 : List S48) (a1 : Int) : Option (List S48) := if l0.length = 0 ∧ 0 ≤ a1 ∧ a1 ≤ 1000000 then some [] else none
set_option maxHeartbeats 8000000 in
set_option maxRecDepth 100000 in
theorem api_Edge_66.calls (n : Int) (w : World) (h0 : 0 ≤ n) (h1 : n ≤ 1000000) : Calls Try.prog 66 #[.slice none 0 0, .int .i64 n] w fun e w' => ∃ v : Value, e = .returned v ∧ Kd.R k48 48 w' w.heap.size (fun _ => True) v [] ∧ Below w.heap.size w w' := by
  have HB := Aside0.mk (Below.refl w.heap.size w)
  obtain ⟨i0_, hi0_, _, hsz_, _⟩ := info_parts info48
  have hcutA := cut_to (P := Try.prog) 22 48 .i64 Try.underlying22 hi0_ none 0 0 0 (by decide) (by decide) (by decide)
  have hcutB := fun (A : Option Addr) (m c : Nat) (hc : m ≤ c) => cut_to (P := Try.prog) 22 48 .i64 Try.underlying22 hi0_ A m c 0 (by decide) (by omega) hc
  clear hi0_ hsz_
  have hlt : ¬ n < 0 := by omega
  by_cases hn : n = 0
  · subst hn
    go_enter Try.func66, Try.ntmps66
    go_wp2_with (fail)
    go_ret
    exact ⟨_, rfl, Kd.R_nil _ _ _ _ _, HB.out⟩
  · have hgt : n > 0 := by omega
    go_enter Try.func66, Try.ntmps66
    go_wp2_with (first
      | (at_builtin; (refine Kd.R_append_zeros k48 (w0 := w) w.heap.size rfl (.tmp 20) (.tmp 21) 22 3 48 (.agg #[(.int .i64 0), (.int .i64 0), (.int .i64 0), (.int .i64 0), (.int .i64 0), (.bool false)]) 48 rfl Try.underlying22 Try.underlying3 info48 rfl (by decide) (by omega) (.slice none 0 0) [] ⟨0, 0, 0, ⟨0, 0⟩, false⟩ n (fun _ => True) rfl rfl ?hzero (fun _ _ => trivial) (Kd.R_nil _ _ _ _ _) h0 HB.out (Nat.le_refl _) (by simp only [List.length_nil]; omega) ?_; (case hzero => exact k48_mkM _ _ _ _); intro v2 w2 ho hb hg hat; clear hg hat; obtain ⟨A2, c2, rfl⟩ := Kd.R_slice ho; have hcut2 := hcutB A2 _ c2 (Kd.R_reads' ho).2.1; have HO2 := Aside0.mk ho; have HB2 := Aside0.mk hb; clear ho hb)))
    go_ret
    exact ⟨_, rfl, Kd.R_take (m := 0) HO2.out (Nat.zero_le _), HB2.out⟩


/-! ### api_Edge_58: function 58 -/
def api_Edge_58.f (l0 : List (List S48)) : Option (List S48) := none
set_option maxHeartbeats 8000000 in
set_option maxRecDepth 100000 in
theorem api_Edge_58.calls (b cs : Nat) (A1 : Option Addr) (c1 : Nat) (l1 : List S48) (A2 : Option Addr) (c2 : Nat) (l2 : List S48) (w : World) (hb0 : w.cell? ⟨b, 0, none⟩ = some (.slice A1 l1.length c1)) (hb1 : w.cell? ⟨b, 1, none⟩ = some (.slice A2 l2.length c2))
    (hr1 : Kd.C k48 w A1 l1.length l1) (hc1 : l1.length ≤ c1) (hr2 : Kd.C k48 w A2 l2.length l2) (hc2 : l2.length ≤ c2) (hl1 : l1.length ≤ 100000) (hl2 : l2.length ≤ 100000) :
    Calls Try.prog 58 #[.slice (some ⟨b, 0, none⟩) 2 cs] w fun e w' => ∃ v : Value, e = .returned v ∧ Kd.R k48 48 w' w.heap.size (fun _ => True) v (l1 ++ l2) ∧ Below w.heap.size w w' := by
  have HR1 := Aside0.mk hr1
  have HR2 := Aside0.mk hr2
  have HC1 := Aside0.mk hc1
  have HC2 := Aside0.mk hc2
  have HB0 := Aside0.mk hb0
  have HB1 := Aside0.mk hb1
  clear hr1 hr2 hc1 hc2
  go_enter Try.func58, Try.ntmps58
  go_wp2_with (fail)
  go_loopg [3, 11] 2 (fun d v3 v11 wr => w = wr ∧ (d = 2 ∧ v3 = .int .i64 0 ∧ v11 = .int .i64 0 ∨ d = 1 ∧ v3 = .int .i64 l1.length ∧ v11 = .int .i64 1 ∨ d = 0 ∧ v3 = .int .i64 (l1.length + l2.length) ∧ v11 = .int .i64 2))
  case atStart => exact ⟨rfl, .inl ⟨rfl, rfl, rfl⟩⟩
  case round =>
    obtain ⟨rfl, ⟨rfl, rfl, rfl⟩ | ⟨rfl, rfl, rfl⟩ | ⟨rfl, rfl, rfl⟩⟩ := hrel
    · have hnn : ¬ (l1.length : Int) < 0 := by omega
      go_wp2_with (fail)
      go_roundg 1
      case measure => omega
      case rel => exact ⟨rfl, .inr (.inl ⟨rfl, by first | rfl | go_num, rfl⟩)⟩
    · have hnn : ¬ (l1.length : Int) + (l2.length : Int) < 0 := by omega
      go_wp2_with (fail)
      go_roundg 0
      case measure => omega
      case rel => exact ⟨rfl, .inr (.inr ⟨rfl, by first | rfl | go_num, rfl⟩)⟩
    · go_wp2_with (fail)
      refine (api_Edge_66.calls ((l1.length : Int) + (l2.length : Int)) w (by omega) (by omega)).mono ?_
      rintro e w2 ⟨v2, rfl, hO, hB⟩
      obtain ⟨A0, c0, rfl⟩ := Kd.R_slice hO
      have HO := Aside0.mk hO
      have HB := Aside0.mk hB
      clear hO hB hb0 hb1
      go_wp2_with (fail)
      go_loopg [6, 27] 2 (fun d v6 v27 wr => (d = 2 ∧ v27 = .int .i64 0 ∧ Aside0 (Kd.R k48 48 wr w.heap.size (fun _ => True) v6 []) ∨ d = 1 ∧ v27 = .int .i64 1 ∧ Aside0 (Kd.R k48 48 wr w.heap.size (fun _ => True) v6 l1) ∨ d = 0 ∧ v27 = .int .i64 2 ∧ Aside0 (Kd.R k48 48 wr w.heap.size (fun _ => True) v6 (l1 ++ l2))) ∧ Aside0 (Below w.heap.size w wr))
      case atStart => exact ⟨.inl ⟨rfl, rfl, HO⟩, HB⟩
      case round =>
        clear HO HB
        obtain ⟨hc, HB⟩ := hrel
        rcases hc with ⟨rfl, rfl, HO⟩ | ⟨rfl, rfl, HO⟩ | ⟨rfl, rfl, HO⟩
        · obtain ⟨A3, c3, e⟩ := Kd.R_slice HO.out
          subst e
          have hx0 := (HB.out.cell (World.block_lt_of_cell? w _ HB0.out)).trans HB0.out
          go_wp2_with (first
            | (at_builtin; refine Kd.R_append_rows k48 (w0 := w) w.heap.size rfl (.tmp 31) (.tmp 32) 22 48 (.agg #[.int .i64 0, .int .i64 0, .int .i64 0, .int .i64 0, .int .i64 0, .bool false]) 48 rfl Try.underlying22 info48 rfl (by decide) (by omega) _ [] l1 _ _ _ (fun _ => True) (fun _ => False) rfl rfl HO.out (Kd.C_below HR1.out HB.out) (fun _ _ h => h) (fun _ h => h.elim) (fun _ _ => trivial) HB.out (below_size HB.out) (by simp only [List.length_nil]; omega) ?_; intro v2 w2 ho hb hg hat; clear hg hat hx0; have HO2 := Aside0.mk ho; have HB2 := Aside0.mk hb; clear ho hb))
          go_roundg 1
          case measure => omega
          case rel => exact ⟨.inr (.inl ⟨rfl, rfl, HO2⟩), HB2⟩
        · obtain ⟨A3, c3, e⟩ := Kd.R_slice HO.out
          subst e
          have hx0 := (HB.out.cell (World.block_lt_of_cell? w _ HB1.out)).trans HB1.out
          go_wp2_with (first
            | (at_builtin; refine Kd.R_append_rows k48 (w0 := w) w.heap.size rfl (.tmp 31) (.tmp 32) 22 48 (.agg #[.int .i64 0, .int .i64 0, .int .i64 0, .int .i64 0, .int .i64 0, .bool false]) 48 rfl Try.underlying22 info48 rfl (by decide) (by omega) _ l1 l2 _ _ _ (fun _ => True) (fun _ => False) rfl rfl HO.out (Kd.C_below HR2.out HB.out) (fun _ _ h => h) (fun _ h => h.elim) (fun _ _ => trivial) HB.out (below_size HB.out) (by omega) ?_; intro v2 w2 ho hb hg hat; clear hg hat hx0; have HO2 := Aside0.mk ho; have HB2 := Aside0.mk hb; clear ho hb))
          go_roundg 0
          case measure => omega
          case rel => exact ⟨.inr (.inr ⟨rfl, rfl, HO2⟩), HB2⟩
        · obtain ⟨A3, c3, e⟩ := Kd.R_slice HO.out
          subst e
          go_wp2_with (fail)
          go_ret
          exact ⟨_, rfl, by have h_ := HO.out; rw [List.length_append] at h_; exact h_, HB.out⟩


/-! ### loop_turned: function 46 -/
def loop_turned_x (l : List S48) (j : Nat) : Int := (rd_T48 l (j : Int)).f0
def loop_turned_ls (l : List S48) : Nat := Go.Proofs.Ytacjlaiddnfpdaa.H.lsI (loop_turned_x l) l.length
def loop_turned.f (l0 : List S48) : Option (List S48) := if l0.length ≤ 100000 then some (l0.drop (loop_turned_ls l0) ++ l0.take (loop_turned_ls l0)) else none
theorem loop_turned_at {w W : World} {A : Option Addr} {l : List S48} (h : Kd.C k48 w A l.length l) (hb : Below w.heap.size w W) (i : Nat) (hi : i < l.length) (x : S48) (hx : rd_T48 l (i : Int) = x) : ∃ ad, A = some ad ∧ W.cell? (ad.add (i * 6)) = some (.int .i64 x.f0) ∧ W.cell? ⟨(ad.add (i * 6)).block, (ad.add (i * 6)).off + 1, none⟩ = some (.int .i64 x.f1) ∧ W.cell? ⟨(ad.add (i * 6)).block, (ad.add (i * 6)).off + 2, none⟩ = some (.int .i64 x.f2) ∧ W.cell? ⟨(ad.add (i * 6)).block, (ad.add (i * 6)).off + 3, none⟩ = some (.int .i64 x.f3.f0) ∧ W.cell? ⟨(ad.add (i * 6)).block, (ad.add (i * 6)).off + 4, none⟩ = some (.int .i64 x.f3.f1) ∧ W.cell? ⟨(ad.add (i * 6)).block, (ad.add (i * 6)).off + 5, none⟩ = some (.bool x.f4) := by
  subst hx
  obtain ⟨ad, e, h0, h1, h2, h3, h4, h5⟩ := at_T48 h (i : Int) (by omega) (by omega)
  simp only [Int.toNat_natCast] at h0 h1 h2 h3 h4 h5
  exact ⟨ad, e, (hb.cell (World.block_lt_of_cell? w _ h0)).trans h0, (hb.cell (World.block_lt_of_cell? w _ h1)).trans h1, (hb.cell (World.block_lt_of_cell? w _ h2)).trans h2, (hb.cell (World.block_lt_of_cell? w _ h3)).trans h3, (hb.cell (World.block_lt_of_cell? w _ h4)).trans h4, (hb.cell (World.block_lt_of_cell? w _ h5)).trans h5⟩
theorem loop_turned_mem {l : List S48} (j : Nat) (h : j < l.length) : rd_T48 l (j : Int) = l[j] := by
  show l.getD _ _ = _
  rw [Int.toNat_natCast, List.getD_eq_getElem?_getD, List.getElem?_eq_getElem h]; rfl
set_option maxHeartbeats 8000000 in
set_option maxRecDepth 100000 in
theorem loop_turned.calls (A0 : Option Addr) (c0 : Nat) (l0 : List S48) (r : List S48) (w : World) (hr0 : Kd.C k48 w A0 l0.length l0) (hc0 : l0.length ≤ c0) (h : loop_turned.f l0 = some r) :
    Calls Try.prog 46 #[.slice A0 l0.length c0] w fun e w' => ∃ v0_ : Value, e = .returned (v0_) ∧ Kd.R k48 48 w' w.heap.size (fun _ => True) v0_ r ∧ Below w.heap.size w w' := by
  have hu_ := Try.underlying48
  unfold loop_turned.f at h
  by_cases hl : l0.length ≤ 100000
  case neg => rw [if_neg hl] at h; cases h
  rw [if_pos hl] at h
  obtain rfl := Option.some.inj h
  clear h
  have HR := Aside0.mk hr0
  have HC := Aside0.mk hc0
  have HB := Aside0.mk (Below.refl w.heap.size w)
  clear hr0 hc0
  go_enter Try.func46, Try.ntmps46
  go_wp2_with (fail)
  go_loopg [3, 8] l0.length (fun d v3 v8 wr => ∃ (i s : Nat), i + d = l0.length ∧ s = Go.Proofs.Ytacjlaiddnfpdaa.H.lsI (loop_turned_x l0) i ∧ v3 = .int .i64 s ∧ v8 = .int .i64 i ∧ Aside0 (Below w.heap.size w wr))
  case atStart => exact ⟨0, 0, by omega, rfl, rfl, rfl, HB⟩
  case round =>
    clear HB
    obtain ⟨i, s, hi, hs, rfl, rfl, HB⟩ := hrel
    by_cases hlt : i < l0.length
    · have hltz : (i : Int) < (l0.length : Int) := by omega
      have hsl : s < l0.length := by
        have := Go.Proofs.Ytacjlaiddnfpdaa.H.lsI_le_n (loop_turned_x l0) i
        omega
      have hslz : (s : Int) < (l0.length : Int) := by omega
      obtain ⟨x, hx⟩ : ∃ x, rd_T48 l0 (i : Int) = x := ⟨_, rfl⟩
      obtain ⟨ad, e, h0, h1, h2, h3, h4, h5⟩ := loop_turned_at HR.out HB.out i hlt x hx
      cases e
      have HBA := Aside0.mk (below_alloc HB.out (.cells #[.int .i64 x.f0, .int .i64 x.f1, .int .i64 x.f2, .int .i64 x.f3.f0, .int .i64 x.f3.f1, .bool x.f4] 48 (0, 0)))
      have HBK := Aside0.mk (blk_new wr (.cells #[.int .i64 x.f0, .int .i64 x.f1, .int .i64 x.f2, .int .i64 x.f3.f0, .int .i64 x.f3.f1, .bool x.f4] 48 (0, 0)))
      obtain ⟨y, hy⟩ : ∃ y, rd_T48 l0 (s : Int) = y := ⟨_, rfl⟩
      have hst : Go.Proofs.Ytacjlaiddnfpdaa.H.lsI (loop_turned_x l0) (i + 1) = if x.f0 < y.f0 then i else s := by
        show (if loop_turned_x l0 i < loop_turned_x l0 (Go.Proofs.Ytacjlaiddnfpdaa.H.lsI (loop_turned_x l0) i) then i else Go.Proofs.Ytacjlaiddnfpdaa.H.lsI (loop_turned_x l0) i) = _
        rw [← hs]
        show (if (rd_T48 l0 (i : Int)).f0 < (rd_T48 l0 (s : Int)).f0 then i else s) = _
        rw [hx, hy]
      have HST := Aside0.mk hst
      clear hst hs hx
      go_wp2_with (fail)
      clear h0 h1 h2 h3 h4 h5
      obtain ⟨ad2, e, g0, g1, g2, g3, g4, g5⟩ := loop_turned_at HR.out HBA.out s hsl y hy
      cases e
      have b0 := blk_cell HBK.out 0
      clear hy
      by_cases ct : x.f0 < y.f0
      · have HS2 := Aside0.mk (show i = Go.Proofs.Ytacjlaiddnfpdaa.H.lsI (loop_turned_x l0) (i + 1) by rw [HST.out, if_pos ct])
        clear HST
        go_quiet (fail)
        go_wp2_with (fail)
        go_roundg (gk - 1)
        case measure => omega
        case rel => exact ⟨i + 1, i, by omega, HS2.out, rfl, by go_num, ⟨pw_below_drewN HBA.out _⟩⟩
      · have HS2 := Aside0.mk (show s = Go.Proofs.Ytacjlaiddnfpdaa.H.lsI (loop_turned_x l0) (i + 1) by rw [HST.out, if_neg ct])
        clear HST
        go_quiet (fail)
        go_wp2_with (fail)
        go_roundg (gk - 1)
        case measure => omega
        case rel => exact ⟨i + 1, s, by omega, HS2.out, rfl, by go_num, ⟨pw_below_drewN HBA.out _⟩⟩
    · have hltz : ¬ (i : Int) < (l0.length : Int) := by omega
      obtain rfl : i = l0.length := by omega
      have hsl : s ≤ l0.length := by
        have := Go.Proofs.Ytacjlaiddnfpdaa.H.lsI_le_n (loop_turned_x l0) l0.length
        omega
      have HLS := Aside0.mk (show s = loop_turned_ls l0 from hs)
      clear hs
      obtain ⟨i0_, hi0_, _, hsz_, _⟩ := info_parts info48
      have hcutA := cut_from (P := Try.prog) 22 48 .i64 Try.underlying22 hi0_ 6 hsz_ A0 l0.length c0 (s : Int) (by omega) (by omega)
      have hcutB := cut_to (P := Try.prog) 22 48 .i64 Try.underlying22 hi0_ A0 l0.length c0 (s : Int) (by omega) (by omega) HC.out
      have hCA := Kd.C_drop HR.out hsl HC.out
      have hCB := Kd.C_take HR.out hsl
      simp only [Int.toNat_natCast] at hcutA hcutB
      rw [show (k48).sz = 6 from rfl] at hCA
      generalize (if c0 = s then A0 else A0.map (·.add (s * 6))) = A5 at hcutA hCA
      have HCA := Aside0.mk hCA
      have HCB := Aside0.mk hCB
      clear hCA hCB hi0_ hsz_
      have HBD := Aside0.mk (below_drew1 HB.out)
      go_wp2_with (fail)
      refine start_ (n := 9) (S := fun w' => True) (ds := []) #[false, false, false, false, false, false, false, false, false] (by kernel_rfl) rfl rfl trivial (fun hHeld => ?_)
      refine pure_ (i := 0) (N := some 23) (v := ?_) (a' := ?_) #[true, false, false, false, false, false, false, false, false] rfl rfl (by kernel_rfl) (fun _ _ _ h => h) (Or.inl ⟨by rfl, ?_⟩) ?_ ?_
      rotate_left
      · intro w'
        go_simp
        with_reducible rfl
      rotate_left
      · simp only [Act.put, List.setIfInBounds_toArray, List.set_cons_zero, List.set_cons_succ, i64_w, i32_w]
        rfl
      refine pure_ (i := 1) (N := some 24) (v := ?_) (a' := ?_) #[true, true, false, false, false, false, false, false, false] rfl rfl (by kernel_rfl) (fun _ _ _ h => h) (Or.inl ⟨by rfl, ?_⟩) ?_ ?_
      rotate_left
      · intro w'
        go_simp
        with_reducible rfl
      rotate_left
      · simp only [Act.put, List.setIfInBounds_toArray, List.set_cons_zero, List.set_cons_succ, i64_w, i32_w]
        rfl
      refine pure_ (i := 2) (N := some 25) (v := ?_) (a' := ?_) #[true, true, true, false, false, false, false, false, false] rfl rfl (by kernel_rfl) (fun _ _ _ h => h) (Or.inl ⟨by rfl, ?_⟩) ?_ ?_
      rotate_left
      · intro w'
        go_simp
        with_reducible rfl
      rotate_left
      · simp only [Act.put, List.setIfInBounds_toArray, List.set_cons_zero, List.set_cons_succ, i64_w, i32_w]
        rfl
      refine pure_ (i := 3) (N := some 26) (v := ?_) (a' := ?_) #[true, true, true, true, false, false, false, false, false] rfl rfl (by kernel_rfl) (fun _ _ _ h => h) (Or.inl ⟨by rfl, ?_⟩) ?_ ?_
      rotate_left
      · intro w'
        go_simp
        with_reducible rfl
      rotate_left
      · simp only [Act.put, List.setIfInBounds_toArray, List.set_cons_zero, List.set_cons_succ, i64_w, i32_w]
        rfl
      refine pure_ (i := 4) (N := some 27) (v := ?_) (a' := ?_) #[true, true, true, true, true, false, false, false, false] rfl rfl (by kernel_rfl) (fun _ _ _ h => h) (Or.inl ⟨by rfl, ?_⟩) ?_ ?_
      rotate_left
      · intro w'
        go_simp
        with_reducible rfl
      rotate_left
      · simp only [Act.put, List.setIfInBounds_toArray, List.set_cons_zero, List.set_cons_succ, i64_w, i32_w]
        rfl
      refine pure_ (i := 5) (N := some 28) (v := ?_) (a' := ?_) #[true, true, true, true, true, true, false, false, false] rfl rfl (by kernel_rfl) (fun _ _ _ h => h) (Or.inl ⟨by rfl, ?_⟩) ?_ ?_
      rotate_left
      · intro w'
        go_simp
        with_reducible rfl
      rotate_left
      · simp only [Act.put, List.setIfInBounds_toArray, List.set_cons_zero, List.set_cons_succ, i64_w, i32_w]
        rfl
      refine one_ (i := 6) (N := some 29) #[true, true, true, true, true, true, true, false, false] rfl rfl (by kernel_rfl) (by decide) (fun K hK => ?_)
      refine event_step (w1 := wr.drew.alloc (.cells #[.slice A5 (l0.length - s) (c0 - s), .slice A0 s c0] 22 (0, 0))) (v := .slice (some ⟨wr.drew.heap.size, 0, none⟩) 2 2) ?hw ?hr ?_; (case hw => rfl); (case hr => first | (go_simp; done) | (go_simp; rfl))
      have HB2 := Aside0.mk (below_alloc HBD.out (.cells #[.slice A5 (l0.length - s) (c0 - s), .slice A0 s c0] 22 (0, 0)))
      have HK2 := Aside0.mk (blk_new wr.drew (.cells #[.slice A5 (l0.length - s) (c0 - s), .slice A0 s c0] 22 (0, 0)))
      refine hK.out _ _ trivial (fun hHeld => ?_)
      clear hK K
      refine norm_ (a' := ?_) ?_ ?_
      rotate_left
      · show Act.put _ (some 29) _ = _
        simp only [Act.put, List.setIfInBounds_toArray, List.set_cons_zero, List.set_cons_succ, i64_w, i32_w]
        rfl
      refine one_ (i := 7) (N := some 30) #[true, true, true, true, true, true, true, true, false] rfl rfl (by kernel_rfl) (by decide) (fun K hK => ?_)
      refine goes_ Try.func58 (by kernel_rfl) rfl #[.slice (some ⟨wr.drew.heap.size, 0, none⟩) 2 2] (by rfl) rfl rfl (by (try simp only [List.map_toArray, List.map_cons, List.map_nil]); first | done | rfl | (simp only [List.length_drop, List.length_take]; rfl)) ?_
      with_reducible refine (api_Edge_58.calls wr.drew.heap.size 2 A5 (c0 - s) (l0.drop s) A0 c0 (l0.take s) _ ((blk_cell HK2.out 0).trans (by rw [List.length_drop]; simp)) ((blk_cell HK2.out 1).trans (by rw [List.length_take, Nat.min_eq_left hsl]; simp)) (Kd.C_below HCA.out HB2.out) (by rw [List.length_drop]; have := HC.out; omega) (Kd.C_below HCB.out HB2.out) (by rw [List.length_take]; have := HC.out; omega) (by rw [List.length_drop]; omega) (by rw [List.length_take]; omega)).mono ?_
      rintro e w6 ⟨v6, rfl, h6, hb6⟩
      refine ⟨_, rfl, ?_⟩
      refine hK.out _ _ trivial (fun hHeld => ?_)
      clear hK K
      refine norm_ (a' := ?_) ?_ ?_
      rotate_left
      · show Act.put _ (some 30) _ = _
        simp only [Act.put, List.setIfInBounds_toArray, List.set_cons_zero, List.set_cons_succ, i64_w, i32_w]
        rfl
      refine pure_ (i := 8) (N := some 2) (v := ?_) (a' := ?_) #[true, true, true, true, true, true, true, true, true] rfl rfl (by kernel_rfl) (fun _ _ _ h => h) (Or.inl ⟨by rfl, ?_⟩) ?_ ?_
      rotate_left
      · intro w'
        go_simp
        with_reducible rfl
      rotate_left
      · simp only [Act.put, List.setIfInBounds_toArray, List.set_cons_zero, List.set_cons_succ, i64_w, i32_w]
        rfl
      refine done_ (by kernel_rfl) ?_
      have HLS2 := HLS.out
      subst HLS2
      go_wp2_with (fail)
      go_ret
      exact ⟨_, rfl, Kd.R_lower h6 (by have := HB2.out.size; omega), below_step HB2.out hb6⟩


/-! ### slices_Index_int_int: function 60 -/
def slices_Index_int_int.l0 : Nat → List Int → Int → Int → Int → Option (Int)
  | 0, _, _, _, _ => none
  | k + 1, x0, x1, x7, x8 => if x8 < x7 then (if 0 ≤ x8 then (if x8 < (x0.length : Int) then (if x1 = (rd x0 x8) then (some x8) else (slices_Index_int_int.l0 k x0 x1 x7 (wrap64 (x8 + 1)))) else (none)) else (none)) else (some (-1))
def slices_Index_int_int.f (k : Nat) (l0 : List Int) (a1 : Int) : Option (Int) := slices_Index_int_int.l0 k l0 a1 (l0.length : Int) 0
theorem slices_Index_int_int.mono_l : ∀ k, (∀ y0 y1 y2 y3, LeO (slices_Index_int_int.l0 k y0 y1 y2 y3) (slices_Index_int_int.l0 (k + 1) y0 y1 y2 y3))
  | 0 => fun _ _ _ _ r h => by simp [slices_Index_int_int.l0] at h
  | k + 1 => by
    have ih0 := slices_Index_int_int.mono_l k
    · intro y0 y1 y2 y3
      unfold slices_Index_int_int.l0
      repeat' first
      | (with_reducible exact ih0 _ _ _ _)
      | (with_reducible exact LeO.refl _)
      | (with_reducible exact LeO.none _)
      | (with_reducible refine LeO.ite ?_ ?_)
      | (with_reducible refine LeO.bind ?_ (fun _ => ?_))
      | exact ih0 _ _ _ _
      | exact LeO.none _
      | refine LeO.ite ?_ ?_
      | refine LeO.bind ?_ (fun _ => ?_)
theorem slices_Index_int_int.mono : ∀ a0 a1 k, LeO (slices_Index_int_int.f k a0 a1) (slices_Index_int_int.f (k + 1) a0 a1) := by
  intro a0 a1 k
  have ih0 := slices_Index_int_int.mono_l k
  unfold slices_Index_int_int.f
  repeat' first
      | (with_reducible exact ih0 _ _ _ _)
      | (with_reducible exact LeO.refl _)
      | (with_reducible exact LeO.none _)
      | (with_reducible refine LeO.ite ?_ ?_)
      | (with_reducible refine LeO.bind ?_ (fun _ => ?_))
      | exact ih0 _ _ _ _
      | exact LeO.none _
      | refine LeO.ite ?_ ?_
      | refine LeO.bind ?_ (fun _ => ?_)
set_option maxHeartbeats 8000000 in
set_option maxRecDepth 100000 in
theorem slices_Index_int_int.calls (k : Nat) (A0 : Option Addr) (c0 : Nat) (l0 : List Int) (a1 : Int) (r : Int) (w : World) (hr0 : Kd.C (Kd.int .i64) w A0 l0.length l0) (hc0 : l0.length ≤ c0) (h : slices_Index_int_int.f k l0 a1 = some r) :
    Calls Try.prog 60 #[.slice A0 l0.length c0, .int .i64 a1] w fun e w' => e = .returned (.int .i64 r) ∧ Drawn0 w w' := by
  have HR0 := Aside0.mk hr0
  have HC0 := Aside0.mk hc0
  clear hr0 hc0
  have H : (slices_Index_int_int.l0 k l0 a1 (l0.length : Int) 0) = some r := h
  clear h
  have H' := Aside0.mk H
  clear H
  go_enter Try.func60, Try.ntmps60
  go_wp2
  go_loopg [8] k (fun kq v8 w' => ∃ (x8_1 : Int), v8 = .int .i64 x8_1 ∧ Aside0 (slices_Index_int_int.l0 kq l0 a1 (l0.length : Int) x8_1 = some r) ∧ Aside0 (kq ≤ k) ∧ Drawn0 w w')
  case atStart => exact ⟨(0), (by first | rfl | (simp; done) | (simp [*]; done)), H', ⟨Nat.le_refl _⟩, by repeat (first | exact Drawn0.refl _ | apply Drawn0.step)⟩
  case round =>
    clear H'
    try clear p2
    obtain ⟨x8_1, rfl, HA, HK1, ⟨m1, rfl⟩⟩ := hrel
    cases gk with
    | zero => exact absurd HA.out (by simp [slices_Index_int_int.l0])
    | succ k1 =>
      have H := HA.out
      clear HA
      simp only [slices_Index_int_int.l0] at H
      by_cases c3 : x8_1 < (l0.length : Int)
      · rw [if_pos c3] at H
        have c3b0 : decide (x8_1 < (l0.length : Int)) = true := decide_eq_true c3
        clear c3
        by_cases c4 : 0 ≤ x8_1
        · rw [if_pos c4] at H
          have c4b0 : decide (0 ≤ x8_1) = true := decide_eq_true c4
          clear c4
          by_cases c5 : x8_1 < (l0.length : Int)
          · rw [if_pos c5] at H
            have c5b0 : decide (x8_1 < (l0.length : Int)) = true := decide_eq_true c5
            clear c5
            by_cases c6 : a1 = (rd l0 x8_1)
            · rw [if_pos c6] at H
              have c6b0 : (a1 == (rd l0 x8_1)) = true := beq_iff_eq.mpr c6
              have c6b1 : (a1 != (rd l0 x8_1)) = false := bne_eq_false_iff_eq.mpr c6
              clear c6
              obtain rfl := Option.some.inj H
              have p175 : 0 ≤ (x8_1 : Int) := of_decide_eq_true (by first | (with_reducible assumption) | assumption)
              have q175 : x8_1 < (l0.length : Int) := of_decide_eq_true (by first | (with_reducible assumption) | assumption)
              obtain ⟨ad175, e175, hx175_0⟩ := Kd.at_int HR0.out x8_1 p175 q175
              cases e175
              replace p175 := eq_true p175
              replace q175 := eq_true q175
              go_wp2
              go_ret
              exact ⟨by first | rfl | (simp; done) | (simp [*]; done), by repeat (first | exact Drawn0.refl _ | apply Drawn0.step)⟩
            · rw [if_neg c6] at H
              have c6b0 : (a1 == (rd l0 x8_1)) = false := beq_eq_false_iff_ne.mpr c6
              have c6b1 : (a1 != (rd l0 x8_1)) = true := bne_iff_ne.mpr c6
              have H' := Aside0.mk H
              clear H
              have p175 : 0 ≤ (x8_1 : Int) := of_decide_eq_true (by first | (with_reducible assumption) | assumption)
              have q175 : x8_1 < (l0.length : Int) := of_decide_eq_true (by first | (with_reducible assumption) | assumption)
              obtain ⟨ad175, e175, hx175_0⟩ := Kd.at_int HR0.out x8_1 p175 q175
              cases e175
              replace p175 := eq_true p175
              replace q175 := eq_true q175
              go_wp2
              go_roundg k1
              case measure => have := HK1.out; omega
              case rel => exact ⟨(wrap64 (x8_1 + 1)), (by first | rfl | (simp; done) | (simp [*]; done)), H', ⟨by have := HK1.out; omega⟩, by repeat (first | exact Drawn0.refl _ | apply Drawn0.step)⟩
          · rw [if_neg c5] at H
            exact absurd H (by simp)
        · rw [if_neg c4] at H
          exact absurd H (by simp)
      · rw [if_neg c3] at H
        have c3b0 : decide (x8_1 < (l0.length : Int)) = false := decide_eq_false c3
        clear c3
        obtain rfl := Option.some.inj H
        go_wp2
        go_ret
        exact ⟨by first | rfl | (simp; done) | (simp [*]; done), by repeat (first | exact Drawn0.refl _ | apply Drawn0.step)⟩

/-! ### slices_Contains_int_int: function 59 -/
def slices_Contains_int_int.f (k : Nat) (l0 : List Int) (a1 : Int) : Option (Bool) := (slices_Index_int_int.f k l0 a1).bind fun t176 => (some (decide (t176 ≥ 0)))
theorem slices_Contains_int_int.mono : ∀ a0 a1 k, LeO (slices_Contains_int_int.f k a0 a1) (slices_Contains_int_int.f (k + 1) a0 a1) := by
  intro a0 a1 k
  unfold slices_Contains_int_int.f
  repeat' first
      | (with_reducible exact slices_Index_int_int.mono _ _ _)
      | (with_reducible exact LeO.refl _)
      | (with_reducible exact LeO.none _)
      | (with_reducible refine LeO.ite ?_ ?_)
      | (with_reducible refine LeO.bind ?_ (fun _ => ?_))
      | exact slices_Index_int_int.mono _ _ _
      | exact LeO.none _
      | refine LeO.ite ?_ ?_
      | refine LeO.bind ?_ (fun _ => ?_)
set_option maxHeartbeats 8000000 in
set_option maxRecDepth 100000 in
theorem slices_Contains_int_int.calls (k : Nat) (A0 : Option Addr) (c0 : Nat) (l0 : List Int) (a1 : Int) (r : Bool) (w : World) (hr0 : Kd.C (Kd.int .i64) w A0 l0.length l0) (hc0 : l0.length ≤ c0) (h : slices_Contains_int_int.f k l0 a1 = some r) :
    Calls Try.prog 59 #[.slice A0 l0.length c0, .int .i64 a1] w fun e w' => e = .returned (.bool r) ∧ Drawn0 w w' := by
  have HR0 := Aside0.mk hr0
  have HC0 := Aside0.mk hc0
  clear hr0 hc0
  have H : ((slices_Index_int_int.f k l0 a1).bind fun t176 => (some (decide (t176 ≥ 0)))) = some r := h
  clear h
  replace H := Option.bind_eq_some_iff.mp H
  obtain ⟨t176, A30, H⟩ := H
  replace H : (some (decide (t176 ≥ 0))) = some r := H
  have A3 := Aside0.mk A30
  clear A30
  obtain rfl := Option.some.inj H
  go_enter Try.func59, Try.ntmps59
  go_wp2_with (first | ((with_reducible refine gate_callee (f := 60) rfl ?_); refine goesL_ (some 7) rfl rfl Try.func60 (by kernel_rfl) rfl #[.slice A0 l0.length c0, .int .i64 a1] rfl (by (try simp only [List.map_toArray, List.map_cons, List.map_nil]); first | done | rfl | (simp only [List.length_drop, List.length_take]; rfl)) ?_; (with_reducible refine (slices_Index_int_int.calls k _ _ l0 a1 t176 _ ?side1 ?side2 A3.out).mono ?_); (case side1 => repeat (first | exact HR0.out | (with_reducible refine Kd.C_alloc ?_ _) | (with_reducible refine Kd.C_drewN ?_ _) | (with_reducible refine Kd.C_drew ?_))); (case side2 => exact HC0.out); rintro e w' ⟨rfl, ⟨nd, rfl⟩⟩; refine ⟨_, rfl, ?_⟩))
  go_ret
  exact ⟨by first | rfl | (simp; done) | (simp [*]; done), by repeat (first | exact Drawn0.refl _ | apply Drawn0.step)⟩

/-! ### api_Edge_61: function 61 -/
def api_Edge_61.f (l0 : List S48) : Option (List S48) := if l0.length < 2932031007402 then some l0 else none
theorem api_Edge_61_nil : Aside0 (∀ (a : Option Addr) (n c : Nat) (w : World), Sem.run Try.prog (binOp .eql 22 (.slice a n c) (.slice none 0 0)) w = .ok (.bool a.isNone) w) := ⟨fun a n c w => Go.run_eql_slice_nil w 22 48 a n c Try.underlying22⟩
set_option maxHeartbeats 8000000 in
set_option maxRecDepth 100000 in
theorem api_Edge_61.calls (A0 : Option Addr) (c0 : Nat) (l0 : List S48) (r : List S48) (w : World) (hr0 : Kd.C k48 w A0 l0.length l0) (hc0 : l0.length ≤ c0) (h : api_Edge_61.f l0 = some r) :
    Calls Try.prog 61 #[.slice A0 l0.length c0] w fun e w' => ∃ v0_ : Value, e = .returned (v0_) ∧ Kd.R k48 48 w' w.heap.size (fun _ => True) v0_ r ∧ Below w.heap.size w w' := by
  have HR0 := Aside0.mk hr0
  have HB := Aside0.mk (Below.refl w.heap.size w)
  unfold api_Edge_61.f at h
  by_cases hl : l0.length < 2932031007402
  · rw [if_pos hl] at h
    obtain rfl := Option.some.inj h
    have LM := Aside0.mk hl
    clear h hr0 hl
    cases A0 with
    | none =>
      have hn := api_Edge_61_nil.out none l0.length c0
      have hnil : l0 = [] := by
        rcases Nat.eq_zero_or_pos l0.length with h0 | h0
        · exact List.eq_nil_of_length_eq_zero h0
        · obtain ⟨ad, e, _⟩ := HR0.out.2.2 h0
          cases e
      have HN := Aside0.mk hnil
      clear hnil
      go_enter Try.func61, Try.ntmps61
      go_wp2
      go_ret
      exact ⟨.slice none 0 0, rfl, by rw [HN.out]; exact Kd.R_nil _ _ _ _ _, HB.out⟩
    | some ad =>
      have hn := api_Edge_61_nil.out (some ad) l0.length c0
      go_enter Try.func61, Try.ntmps61
      go_wp2_with (first
        | ((with_reducible refine gate_dst (N := 5) rfl ?_); refine Kd.R_lit k48 _ 48 ?hg (N := 5) ?hd (xs := []) (inner := []) (ok := fun _ => True) (okp := fun _ => True) ?hr ?hp (fun _ hk => hk) trivial (Below.refl _ _) (Nat.le_refl _) (by simp) ?_; (case hd => rfl); (case hg => rfl); (case hr => first | (go_simp; done) | (go_simp; rfl)); (case hp => exact (Reps.none _ _)); intro v1 w1 ho hb hg_ hnew_; clear hg_ hnew_; have HO1 := Aside0.mk ho; have HB1 := Aside0.mk hb; clear ho hb)
        | (at_builtin; refine Kd.R_append_rows k48 (w0 := w) w.heap.size rfl (.tmp 5) (.tmp 6) 22 48 (.agg #[(.int .i64 0), (.int .i64 0), (.int .i64 0), (.int .i64 0), (.int .i64 0), (.bool false)]) 48 rfl Try.underlying22 info48 rfl (by decide) (by omega) v1 [] l0 _ _ _ (fun _ => True) (fun _ => False) rfl rfl HO1.out (Kd.C_below HR0.out HB1.out) (fun _ _ h => h) (fun _ h => h.elim) (fun _ _ => trivial) HB1.out (below_size HB1.out) (by have := LM.out; simp only [List.length_nil]; omega) ?_; intro v2 w2 ho hb hg hat; clear hg hat; have HO2 := Aside0.mk ho; have HB2 := Aside0.mk hb; clear ho hb))
      go_ret
      exact ⟨v2, rfl, HO2.out, HB2.out⟩
  · rw [if_neg hl] at h
    exact absurd h (by simp)


end Go.Proofs.Ytacjlaiddnfpdaa.CU
