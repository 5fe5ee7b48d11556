-- WRITTEN FOR THIS CLAIM by wip/tools/mp.py, a program of this project that drives the kit's print; the functions that the print does not take are this project's own texts.
import Derived.Test.YtcgjplolehhpjaaUx0
import Derived.Test.YtcgjplolehhpjaaUx1
import Derived.Test.YtcgjplolehhpjaaUx3
namespace Go.Proofs.Ytcgjplolehhpjaa.U
open Go.RowKit Go.Proofs.YtcgjplolehhpjaaW.PrintWords Go.Proofs.YtcgjplolehhpjaaW.PrintLast Go.Proofs.YtcgjplolehhpjaaW.PrintMore
attribute [local go_sem] max2_int min2_int max_two min_two max_three min_three max_four min_four   -- for this text's walks alone
set_option linter.unusedVariables false
set_option linter.unusedSimpArgs false

/-! ### merkhetlaw10_ParentOf: function 3 -/
def merkhetlaw10_ParentOf.f (k : Nat) (l0 : List (S37)) : Option (Bool) := if (l0.length : Int) > 60 then ((merkhetlaw10_fixed.f k).bind fun t137 => (some t137)) else ((merkhetlaw10_fixed.f k).bind fun t138 => (if t138 = true then ((parent_Of.f k l0).bind fun t139 => ((merkhetref10_Of.f k l0).bind fun t142 => ((merkhetref10_Same.f k t139 t142).bind fun t145 => (some t145)))) else (some false)))
theorem merkhetlaw10_ParentOf.mono : ∀ a0 k, LeO (merkhetlaw10_ParentOf.f k a0) (merkhetlaw10_ParentOf.f (k + 1) a0) := by
  intro a0 k
  unfold merkhetlaw10_ParentOf.f
  repeat' first
      | (with_reducible exact merkhetlaw10_fixed.mono _)
      | (with_reducible exact merkhetref10_Of.mono _ _)
      | (with_reducible exact merkhetref10_Same.mono _ _ _)
      | (with_reducible exact parent_Of.mono _ _)
      | (with_reducible exact LeO.refl _)
      | (with_reducible exact LeO.none _)
      | (with_reducible refine LeO.ite ?_ ?_)
      | (with_reducible refine LeO.bind ?_ (fun _ => ?_))
      | exact merkhetlaw10_fixed.mono _
      | exact merkhetref10_Of.mono _ _
      | exact merkhetref10_Same.mono _ _ _
      | exact parent_Of.mono _ _
      | exact LeO.none _
      | refine LeO.ite ?_ ?_
      | refine LeO.bind ?_ (fun _ => ?_)
set_option maxHeartbeats 8000000 in
set_option maxRecDepth 100000 in
theorem merkhetlaw10_ParentOf.calls (k : Nat) (A0 : Option Addr) (c0 : Nat) (l0 : List (S37)) (r : Bool) (w : World) (hr0 : Kd.C k37 w A0 l0.length l0) (hc0 : l0.length ≤ c0) (h : merkhetlaw10_ParentOf.f k l0 = some r) :
    Calls Try.prog 3 #[.slice A0 l0.length c0] w fun e w' => e = .returned (.bool r) ∧ Below w.heap.size w w' := by
  have HR0 := Aside0.mk hr0
  have HC0 := Aside0.mk hc0
  clear hr0 hc0
  have HB := Aside0.mk (Below.refl w.heap.size w)
  have H : (if (l0.length : Int) > 60 then ((merkhetlaw10_fixed.f k).bind fun t137 => (some t137)) else ((merkhetlaw10_fixed.f k).bind fun t138 => (if t138 = true then ((parent_Of.f k l0).bind fun t139 => ((merkhetref10_Of.f k l0).bind fun t142 => ((merkhetref10_Same.f k t139 t142).bind fun t145 => (some t145)))) else (some false)))) = some r := h
  clear h
  by_cases c2 : (l0.length : Int) > 60
  · rw [if_pos c2] at H
    have c2b0 : decide (60 < (l0.length : Int)) = true := decide_eq_true c2
    have c2b1 : decide (60 < l0.length) = true := decide_eq_true (by omega)
    clear c2
    replace H := Option.bind_eq_some_iff.mp H
    obtain ⟨t137, A30, H⟩ := H
    replace H : (some t137) = some r := H
    have A3 := Aside0.mk A30
    clear A30
    obtain rfl := Option.some.inj H
    go_enter Try.func3, Try.ntmps3
    go_wp2_with (first | ((with_reducible refine gate_callee (f := 15) rfl ?_); refine goesL_ (some 6) rfl rfl Try.func15 (by kernel_rfl) rfl #[] rfl (by (try simp only [List.map_toArray, List.map_cons, List.map_nil]); first | done | rfl | (simp only [List.length_drop, List.length_take]; rfl)) ?_; (with_reducible refine (merkhetlaw10_fixed.calls k  t137 _ A3.out).mono ?_); rintro e w4 ⟨rfl, hb⟩; refine ⟨_, rfl, ?_⟩; have n0_ := Aside0.mk (below_step (by repeat (first | (with_reducible first | exact HB.out | apply below_alloc | apply pw_below_drewN | apply below_drew1) | exact HB.out)) hb); clear HB; have HB := n0_; clear n0_; (try clear hb); (try clear hb2); (try clear hk); (try clear hi)))
    go_ret
    exact ⟨by first | rfl | (simp [errW_none, errW_some] <;> rfl) | (simp [*, errW_none, errW_some] <;> rfl), by repeat (first | (with_reducible first | exact HB.out | apply below_alloc | apply pw_below_drewN | apply below_drew1) | exact HB.out)⟩
  · rw [if_neg c2] at H
    have c2b0 : decide (60 < (l0.length : Int)) = false := decide_eq_false c2
    have c2b1 : decide (60 < l0.length) = false := decide_eq_false (by omega)
    clear c2
    replace H := Option.bind_eq_some_iff.mp H
    obtain ⟨t138, A50, H⟩ := H
    replace H : (if t138 = true then ((parent_Of.f k l0).bind fun t139 => ((merkhetref10_Of.f k l0).bind fun t142 => ((merkhetref10_Same.f k t139 t142).bind fun t145 => (some t145)))) else (some false)) = some r := H
    have A5 := Aside0.mk A50
    clear A50
    by_cases c6 : t138 = true
    · subst c6
      have H1 : ((parent_Of.f k l0).bind fun t139 => ((merkhetref10_Of.f k l0).bind fun t142 => ((merkhetref10_Same.f k t139 t142).bind fun t145 => (some t145)))) = some r := by rw [if_pos rfl] at H; exact H
      clear H
      have H := H1
      clear H1
      replace H := Option.bind_eq_some_iff.mp H
      obtain ⟨t139, A70, H⟩ := H
      replace H : ((merkhetref10_Of.f k l0).bind fun t142 => ((merkhetref10_Same.f k t139 t142).bind fun t145 => (some t145))) = some r := H
      have A7 := Aside0.mk A70
      clear A70
      replace H := Option.bind_eq_some_iff.mp H
      obtain ⟨t142, A80, H⟩ := H
      replace H : ((merkhetref10_Same.f k t139 t142).bind fun t145 => (some t145)) = some r := H
      have A8 := Aside0.mk A80
      clear A80
      replace H := Option.bind_eq_some_iff.mp H
      obtain ⟨t145, A90, H⟩ := H
      replace H : (some t145) = some r := H
      have A9 := Aside0.mk A90
      clear A90
      obtain rfl := Option.some.inj H
      go_enter Try.func3, Try.ntmps3
      go_wp2_with (first | ((with_reducible refine gate_callee (f := 15) rfl ?_); refine goesL_ (some 7) rfl rfl Try.func15 (by kernel_rfl) rfl #[] rfl (by (try simp only [List.map_toArray, List.map_cons, List.map_nil]); first | done | rfl | (simp only [List.length_drop, List.length_take]; rfl)) ?_; (with_reducible refine (merkhetlaw10_fixed.calls k  true _ A5.out).mono ?_); rintro e w10 ⟨rfl, hb⟩; refine ⟨_, rfl, ?_⟩; have n0_ := Aside0.mk (below_step (by repeat (first | (with_reducible first | exact HB.out | apply below_alloc | apply pw_below_drewN | apply below_drew1) | exact HB.out)) hb); clear HB; have HB := n0_; clear n0_; (try clear hb); (try clear hb2); (try clear hk); (try clear hi)) | (go_at_call 17; (with_reducible refine (parent_Of.calls k _ _ l0 t139 _ ?side1 ?side2 A7.out).mono ?_); (case side1 => repeat (first | exact (Kd.C_below HR0.out HB.out) | (with_reducible refine Kd.C_alloc ?_ _) | (with_reducible refine Kd.C_drewN ?_ _) | (with_reducible refine Kd.C_drew ?_))); (case side2 => exact HC0.out); rintro e w11 ⟨v140, rfl, ho0, hb⟩; have n0_ := Aside0.mk (Kd.R_lower ho0 (below_size (by repeat (first | (with_reducible first | exact HB.out | apply below_alloc | apply pw_below_drewN | apply below_drew1) | exact HB.out)))); have n1_ := Aside0.mk (below_step (by repeat (first | (with_reducible first | exact HB.out | apply below_alloc | apply pw_below_drewN | apply below_drew1) | exact HB.out)) hb); clear HB; have HO141 := n0_; have HB := n1_; clear n0_ n1_; (try clear hb); (try clear hb2); (try clear hk); (try clear hi); (try clear ho0)) | (go_at_call 18; (with_reducible refine (merkhetref10_Of.calls k _ _ l0 t142 _ ?side1 ?side2 A8.out).mono ?_); (case side1 => repeat (first | exact (Kd.C_below HR0.out HB.out) | (with_reducible refine Kd.C_alloc ?_ _) | (with_reducible refine Kd.C_drewN ?_ _) | (with_reducible refine Kd.C_drew ?_))); (case side2 => exact HC0.out); rintro e w12 ⟨v143, rfl, ho0, hb⟩; have n0_ := Aside0.mk (Kd.R_elder' (by (with_reducible repeat (first | apply Kd.R_alloc | apply Kd.R_drewN | apply Kd.R_drew)); exact HO141.out) (Kd.R_base ho0) hb); have n1_ := Aside0.mk (Kd.R_lower (Kd.R_new' ho0 (Kd.R_lt (by (with_reducible repeat (first | apply Kd.R_alloc | apply Kd.R_drewN | apply Kd.R_drew)); exact HO141.out))) (below_size (by repeat (first | (with_reducible first | exact HB.out | apply below_alloc | apply pw_below_drewN | apply below_drew1) | exact HB.out)))); have n2_ := Aside0.mk (below_step (by repeat (first | (with_reducible first | exact HB.out | apply below_alloc | apply pw_below_drewN | apply below_drew1) | exact HB.out)) hb); clear HO141; clear HB; have HO141 := n0_; have HO144 := n1_; have HB := n2_; clear n0_ n1_ n2_; (try clear hb); (try clear hb2); (try clear hk); (try clear hi); (try clear ho0); obtain ⟨Ao13, co13, eo13⟩ := Kd.R_slice HO141.out; subst eo13; obtain ⟨Ao14, co14, eo14⟩ := Kd.R_slice HO144.out; subst eo14) | (go_at_call 16; (with_reducible refine (merkhetref10_Same.calls k _ _ t139 _ _ t142 t145 _ ?side1 ?side2 ?side3 ?side4 A9.out).mono ?_); (case side1 => repeat (first | exact (Kd.R_reads' HO141.out).2.2 | (with_reducible refine Kd.C_alloc ?_ _) | (with_reducible refine Kd.C_drewN ?_ _) | (with_reducible refine Kd.C_drew ?_))); (case side2 => exact (Kd.R_reads' HO141.out).2.1); (case side3 => repeat (first | exact (Kd.R_reads' HO144.out).2.2 | (with_reducible refine Kd.C_alloc ?_ _) | (with_reducible refine Kd.C_drewN ?_ _) | (with_reducible refine Kd.C_drew ?_))); (case side4 => exact (Kd.R_reads' HO144.out).2.1); rintro e w' ⟨rfl, ⟨nd, rfl⟩⟩))
      go_ret
      exact ⟨by first | rfl | (simp [errW_none, errW_some] <;> rfl) | (simp [*, errW_none, errW_some] <;> rfl), by repeat (first | (with_reducible first | exact HB.out | apply below_alloc | apply pw_below_drewN | apply below_drew1) | exact HB.out)⟩
    · replace c6 := Bool.eq_false_iff.mpr c6
      subst c6
      have H1 : (some false) = some r := by rw [if_neg (show ¬ (false = true) by decide)] at H; exact H
      clear H
      have H := H1
      clear H1
      obtain rfl := Option.some.inj H
      go_enter Try.func3, Try.ntmps3
      go_wp2_with (first | ((with_reducible refine gate_callee (f := 15) rfl ?_); refine goesL_ (some 7) rfl rfl Try.func15 (by kernel_rfl) rfl #[] rfl (by (try simp only [List.map_toArray, List.map_cons, List.map_nil]); first | done | rfl | (simp only [List.length_drop, List.length_take]; rfl)) ?_; (with_reducible refine (merkhetlaw10_fixed.calls k  false _ A5.out).mono ?_); rintro e w15 ⟨rfl, hb⟩; refine ⟨_, rfl, ?_⟩; have n0_ := Aside0.mk (below_step (by repeat (first | (with_reducible first | exact HB.out | apply below_alloc | apply pw_below_drewN | apply below_drew1) | exact HB.out)) hb); clear HB; have HB := n0_; clear n0_; (try clear hb); (try clear hb2); (try clear hk); (try clear hi)))
      go_ret
      exact ⟨by first | rfl | (simp [errW_none, errW_some] <;> rfl) | (simp [*, errW_none, errW_some] <;> rfl), by repeat (first | (with_reducible first | exact HB.out | apply below_alloc | apply pw_below_drewN | apply below_drew1) | exact HB.out)⟩

/-- THE ONE PURE STATEMENT of merkhetlaw10_ParentOf. -/
def merkhetlaw10_ParentOf.Pure : Prop := ∀ (l0 : List (S37)), l0.length ≤ maxLen → (∀ x0_ ∈ l0, ((Lit.int .u64 x0_.f0).wf = true ∧ (Lit.int .u64 x0_.f1).wf = true ∧ (Lit.int .u64 x0_.f2).wf = true ∧ (Lit.int .u8 x0_.f3).wf = true ∧ x0_.f4.size ≤ maxLen ∧ x0_.f5.size ≤ maxLen ∧ (Lit.int .i64 x0_.f6).wf = true ∧ (Lit.int .i64 x0_.f7).wf = true)) → ∃ k, merkhetlaw10_ParentOf.f k l0 = some true

/-! ### parent_Right: function 25 -/
def parent_Right.f (k : Nat) (l0 : List Int) : Option Bool := if l0.length ≤ 1000000 then (if Go.Proofs.Ytcgjplolehhpjaa.H.okB l0 = true then (Go.Proofs.Ytcgjplolehhpjaa.H.cyclesF k l0).map (fun fs => fs.isEmpty) else some false) else none
theorem parent_Right.mono : ∀ a0 k, LeO (parent_Right.f k a0) (parent_Right.f (k + 1) a0) := by
  intro a0 k
  unfold parent_Right.f
  exact LeO.ite (LeO.ite (LeO.map _ (Go.Proofs.Ytcgjplolehhpjaa.H.cyclesF_mono k a0)) (LeO.refl _)) (LeO.refl _)
set_option maxHeartbeats 8000000 in
set_option maxRecDepth 100000 in
theorem parent_Right_found (R : Nat) (a : Int) (b : Bool) (W : World) (hb : W.heap[R]? = some (.cells #[.bool b] 4 (0, 0))) :
    Calls Try.prog 42 #[.int .i64 a, .pointer (some ⟨R, 0, none⟩)] W fun e w' => e = .returned (.tuple #[]) ∧ w' = W.setCell ⟨R, 0, none⟩ (.bool false) := by
  have hc : W.cell? ⟨R, 0, none⟩ = some (.bool b) := (blk_cell hb 0).trans rfl
  have hf := blk_frozen hb 0
  go_enter Try.func42, Try.ntmps42
  go_wp2
  go_end0
  exact ⟨rfl, rfl⟩
structure parent_Right_St (w : World) (R G : Nat) (fs : List Int) (W : World) : Prop where
  below : Below w.heap.size w W
  far : w.heap.size ≤ R
  lt : R < G
  blk : W.heap[R]? = some (.cells #[.bool fs.isEmpty] 4 (0, 0))
set_option maxHeartbeats 8000000 in
set_option maxRecDepth 100000 in
theorem parent_Right.calls (k : Nat) (A0 : Option Addr) (c0 : Nat) (l0 : List Int) (r : Bool) (w : World) (hr0 : Kd.C (Kd.int .i64) w A0 l0.length l0) (hc0 : l0.length ≤ c0) (h : parent_Right.f k l0 = some r) :
    Calls Try.prog 25 #[.slice A0 l0.length c0] w fun e w' => e = .returned (.bool r) ∧ Below w.heap.size w w' := by
  unfold parent_Right.f at h
  by_cases hn : l0.length ≤ 1000000
  case neg => rw [if_neg hn] at h; cases h
  rw [if_pos hn] at h
  have HR := Aside0.mk hr0
  have HB := Aside0.mk (Below.refl w.heap.size w)
  have HH := Aside0.mk h
  have HC := Aside0.mk hc0
  clear h hr0 hc0
  have hmf : ∀ (fn : Fn) (first cap : Array Value) (w : World), (Instr.makeFunc fn first cap).run Try.prog w = .ok (.func fn first cap) w := fun _ _ _ _ => rfl
  have hcyc : ∀ fs, Go.Proofs.Ytcgjplolehhpjaa.H.cyclesF k l0 = some fs → Calls Try.prog 38 #[.slice A0 l0.length c0, .func (.func 42) #[] #[.pointer (some ⟨w.heap.size, 0, none⟩)]] (w.alloc (.cells #[.bool true] 4 (0, 0))) fun e w' => e = .returned (.tuple #[]) ∧ ∃ G, parent_Right_St w w.heap.size G fs w' := fun fs hfs =>
    parent_cycles.calls k A0 c0 l0 fs 42 #[.pointer (some ⟨w.heap.size, 0, none⟩)] (fun args w => enters_ (P := Try.prog) Try.func42 (by kernel_rfl) rfl args w) _ (parent_Right_St w w.heap.size)
      (fun W G hb hg => ⟨below_step (below_alloc (Below.refl _ _) _) hb, Nat.le_refl _, by simp at hg; omega, blk_below (blk_new _ _) hb⟩)
      (fun G fs' W W' hs hg => ⟨pw_below_grown hs.below (some G) hs.below.size hg (fun k_ e => by have := Option.some.inj e; have := hs.lt; omega), hs.far, hs.lt, blk_grown hs.blk hg (by have := hs.lt; simp; omega)⟩)
      (fun G fs' W hs => Kd.C_below HR.out hs.below)
      (fun G fs' a rest W _ hs hlt => (parent_Right_found w.heap.size a _ W hs.blk).mono fun e w' ⟨he, hw⟩ => ⟨he, by subst hw; exact ⟨below_set hs.below (Nat.le_refl _), hs.far, hs.lt, by rw [show (fs' ++ [a]).isEmpty = false by simp]; exact blk_set hs.blk 0 (.bool false)⟩, by subst hw; simp, by subst hw; exact Below.heap_setCell W _ _ G (by have := hs.lt; simp; omega)⟩)
      hn HC.out hfs
  have HCYC := Aside0.mk hcyc
  clear hcyc
  go_enter Try.func25, Try.ntmps25
  go_wp2
  go_loopg [8] l0.length (fun d v8 wr => ∃ (i : Nat), i + d = l0.length ∧ v8 = .int .i64 i ∧ w = wr ∧ Aside0 (∀ j, j < i → -1 ≤ l0.getD j 0 ∧ l0.getD j 0 < (l0.length : Int)))
  case atStart => exact ⟨0, by omega, rfl, rfl, ⟨fun j hj => absurd hj (Nat.not_lt_zero _)⟩⟩
  case round =>
    obtain ⟨i, hi, rfl, rfl, HN⟩ := hrel
    by_cases hlt : i < l0.length
    · have hltz : (i : Int) < (l0.length : Int) := by omega
      obtain ⟨ad, e, hx⟩ := Kd.at_int HR.out (i : Int) (by omega) hltz
      cases e
      have hv : rd l0 (i : Int) = l0.getD i 0 := by unfold rd; rw [Int.toNat_natCast]
      rw [hv, Int.toNat_natCast] at hx
      have HV := Aside0.mk hv
      clear hv
      by_cases hq : -1 ≤ l0.getD i 0 ∧ l0.getD i 0 < (l0.length : Int)
      · have h1 : decide (l0.getD i 0 < -1) = false := decide_eq_false (by omega)
        have h2 : decide ((l0.length : Int) ≤ l0.getD i 0) = false := decide_eq_false (by omega)
        have HQ := Aside0.mk hq
        generalize hz : l0.getD i 0 = z at hx h1 h2
        have HZ := Aside0.mk hz
        clear hz hq
        go_wp2
        go_roundg (gk - 1)
        case measure => omega
        case rel => exact ⟨i + 1, by omega, by go_num, rfl, ⟨fun j hj => by
          rcases Nat.lt_or_ge j i with h3 | h3
          · exact HN.out j h3
          · obtain rfl : j = i := by omega
            exact HQ.out⟩⟩
      · have HF := Aside0.mk (Go.Proofs.Ytcgjplolehhpjaa.H.okB_false hlt hq)
        have hr : r = false := by
          have hh := HH.out
          rw [if_neg (by rw [HF.out]; decide)] at hh
          exact (Option.some.inj hh).symm
        subst hr
        have HQ := Aside0.mk hq
        by_cases h1 : l0.getD i 0 < -1
        · have h1b : decide (l0.getD i 0 < -1) = true := decide_eq_true h1
          generalize l0.getD i 0 = z at hx h1b
          clear hq h1
          go_wp2
          go_ret
          exact ⟨rfl, HB.out⟩
        · have h1b : decide (l0.getD i 0 < -1) = false := decide_eq_false h1
          have h2b : decide ((l0.length : Int) ≤ l0.getD i 0) = true := decide_eq_true (by omega)
          generalize l0.getD i 0 = z at hx h1b h2b
          clear hq h1
          go_wp2
          go_ret
          exact ⟨rfl, HB.out⟩
    · have hltz : ¬ (i : Int) < (l0.length : Int) := by omega
      have HF := Aside0.mk (Go.Proofs.Ytcgjplolehhpjaa.H.okB_true (p := l0) (fun j hj => HN.out j (by omega)))
      have hh := HH.out
      rw [if_pos HF.out] at hh
      obtain ⟨fs, hfs, hr⟩ := Option.map_eq_some_iff.mp hh
      have HFS := Aside0.mk (HCYC.out fs hfs)
      have HRR := Aside0.mk hr
      clear hh hfs hr HCYC
      go_wp2_with (go_at_call 38; refine HFS.out.mono ?_; rintro e w2 ⟨rfl, G, hs⟩; have hc2 : w2.cell? ⟨w.heap.size, 0, none⟩ = some (.bool fs.isEmpty) := (blk_cell hs.blk 0).trans rfl)
      go_ret
      exact ⟨by first | rfl | (rw [← HRR.out]; rfl), hs.below⟩


/-! ### merkhetref10_Right: function 26 -/
mutual
def merkhetref10_Right.l0 : Nat → List Int → Int → Option (Bool)
  | 0, _, _ => none
  | k + 1, x0, x3 => if x3 < (x0.length : Int) then (if 0 ≤ x3 then (if (rd x0 x3) < (-1) then (some false) else (if (rd x0 x3) ≥ (x0.length : Int) then (some false) else (merkhetref10_Right.l0 k x0 (wrap64 (x3 + 1))))) else (none)) else (merkhetref10_Right.l1 k x0 0)
def merkhetref10_Right.l1 : Nat → List Int → Int → Option (Bool)
  | 0, _, _ => none
  | k + 1, x0, x4 => if x4 < (x0.length : Int) then ((merkhetref10_up.f k x0 x4 (wrap64 ((x0.length : Int) + 1))).bind fun t148 => (if t148 ≥ 0 then (some false) else (merkhetref10_Right.l1 k x0 (wrap64 (x4 + 1))))) else (some true)
end
def merkhetref10_Right.f (k : Nat) (l0 : List Int) : Option (Bool) := merkhetref10_Right.l0 k l0 0
theorem merkhetref10_Right.mono_l : ∀ k, (∀ y0 y1, LeO (merkhetref10_Right.l0 k y0 y1) (merkhetref10_Right.l0 (k + 1) y0 y1)) ∧ (∀ y0 y1, LeO (merkhetref10_Right.l1 k y0 y1) (merkhetref10_Right.l1 (k + 1) y0 y1))
  | 0 => ⟨fun _ _ r h => by simp [merkhetref10_Right.l0] at h, fun _ _ r h => by simp [merkhetref10_Right.l1] at h⟩
  | k + 1 => by
    obtain ⟨ih0, ih1⟩ := merkhetref10_Right.mono_l k
    refine ⟨?_, ?_⟩
    · intro y0 y1
      unfold merkhetref10_Right.l0
      repeat' first
      | (with_reducible exact ih0 _ _)
      | (with_reducible exact ih1 _ _)
      | (with_reducible exact merkhetref10_up.mono _ _ _ _)
      | (with_reducible exact LeO.refl _)
      | (with_reducible exact LeO.none _)
      | (with_reducible refine LeO.ite ?_ ?_)
      | (with_reducible refine LeO.bind ?_ (fun _ => ?_))
      | exact ih0 _ _
      | exact ih1 _ _
      | exact merkhetref10_up.mono _ _ _ _
      | exact LeO.none _
      | refine LeO.ite ?_ ?_
      | refine LeO.bind ?_ (fun _ => ?_)
    · intro y0 y1
      unfold merkhetref10_Right.l1
      repeat' first
      | (with_reducible exact ih0 _ _)
      | (with_reducible exact ih1 _ _)
      | (with_reducible exact merkhetref10_up.mono _ _ _ _)
      | (with_reducible exact LeO.refl _)
      | (with_reducible exact LeO.none _)
      | (with_reducible refine LeO.ite ?_ ?_)
      | (with_reducible refine LeO.bind ?_ (fun _ => ?_))
      | exact ih0 _ _
      | exact ih1 _ _
      | exact merkhetref10_up.mono _ _ _ _
      | exact LeO.none _
      | refine LeO.ite ?_ ?_
      | refine LeO.bind ?_ (fun _ => ?_)
theorem merkhetref10_Right.mono : ∀ a0 k, LeO (merkhetref10_Right.f k a0) (merkhetref10_Right.f (k + 1) a0) := by
  intro a0 k
  obtain ⟨ih0, ih1⟩ := merkhetref10_Right.mono_l k
  unfold merkhetref10_Right.f
  repeat' first
      | (with_reducible exact ih0 _ _)
      | (with_reducible exact ih1 _ _)
      | (with_reducible exact merkhetref10_up.mono _ _ _ _)
      | (with_reducible exact LeO.refl _)
      | (with_reducible exact LeO.none _)
      | (with_reducible refine LeO.ite ?_ ?_)
      | (with_reducible refine LeO.bind ?_ (fun _ => ?_))
      | exact ih0 _ _
      | exact ih1 _ _
      | exact merkhetref10_up.mono _ _ _ _
      | exact LeO.none _
      | refine LeO.ite ?_ ?_
      | refine LeO.bind ?_ (fun _ => ?_)
set_option maxHeartbeats 8000000 in
set_option maxRecDepth 100000 in
theorem merkhetref10_Right.calls (k : Nat) (A0 : Option Addr) (c0 : Nat) (l0 : List Int) (r : Bool) (w : World) (hr0 : Kd.C (Kd.int .i64) w A0 l0.length l0) (hc0 : l0.length ≤ c0) (h : merkhetref10_Right.f k l0 = some r) :
    Calls Try.prog 26 #[.slice A0 l0.length c0] w fun e w' => e = .returned (.bool r) ∧ Drawn0 w w' := by
  have HR0 := Aside0.mk hr0
  have HC0 := Aside0.mk hc0
  clear hr0 hc0
  have H : (merkhetref10_Right.l0 k l0 0) = some r := h
  clear h
  have H' := Aside0.mk H
  clear H
  go_enter Try.func26, Try.ntmps26
  go_wp2
  go_loopg [3] k (fun kq v3 w' => ∃ (x3_1 : Int), v3 = .int .i64 x3_1 ∧ Aside0 (merkhetref10_Right.l0 kq l0 x3_1 = some r) ∧ Aside0 (kq ≤ k) ∧ Drawn0 w w')
  case atStart => exact ⟨(0), (by first | rfl | (simp; done) | (simp [*]; done)), H', ⟨Nat.le_refl _⟩, by repeat (first | exact Drawn0.refl _ | apply Drawn0.step)⟩
  case round =>
    clear H'
    obtain ⟨x3_1, rfl, HA, HK1, ⟨m1, rfl⟩⟩ := hrel
    cases gk with
    | zero => exact absurd HA.out (by simp [merkhetref10_Right.l0])
    | succ k1 =>
      have H := HA.out
      clear HA
      simp only [merkhetref10_Right.l0] at H
      by_cases c2 : x3_1 < (l0.length : Int)
      · rw [if_pos c2] at H
        have c2b0 : decide (x3_1 < (l0.length : Int)) = true := decide_eq_true c2
        clear c2
        by_cases c3 : 0 ≤ x3_1
        · rw [if_pos c3] at H
          have c3b0 : decide (0 ≤ x3_1) = true := decide_eq_true c3
          clear c3
          by_cases c4 : (rd l0 x3_1) < (-1)
          · rw [if_pos c4] at H
            have c4b0 : decide ((rd l0 x3_1) < (-1)) = true := decide_eq_true c4
            clear c4
            obtain rfl := Option.some.inj H
            have p146 : 0 ≤ (x3_1 : Int) := of_decide_eq_true (by first | (with_reducible assumption) | assumption)
            have q146 : x3_1 < (l0.length : Int) := of_decide_eq_true (by first | (with_reducible assumption) | assumption)
            obtain ⟨ad146, e146, hx146_0⟩ := Kd.at_int HR0.out x3_1 p146 q146
            cases e146
            replace p146 := eq_true p146
            replace q146 := eq_true q146
            go_wp2
            go_ret
            exact ⟨by first | rfl | (simp; done) | (simp [*]; done), by repeat (first | exact Drawn0.refl _ | apply Drawn0.step)⟩
          · rw [if_neg c4] at H
            have c4b0 : decide ((rd l0 x3_1) < (-1)) = false := decide_eq_false c4
            clear c4
            by_cases c5 : (rd l0 x3_1) ≥ (l0.length : Int)
            · rw [if_pos c5] at H
              have c5b0 : decide ((l0.length : Int) ≤ (rd l0 x3_1)) = true := decide_eq_true c5
              clear c5
              obtain rfl := Option.some.inj H
              have p146 : 0 ≤ (x3_1 : Int) := of_decide_eq_true (by first | (with_reducible assumption) | assumption)
              have q146 : x3_1 < (l0.length : Int) := of_decide_eq_true (by first | (with_reducible assumption) | assumption)
              obtain ⟨ad146, e146, hx146_0⟩ := Kd.at_int HR0.out x3_1 p146 q146
              cases e146
              replace p146 := eq_true p146
              replace q146 := eq_true q146
              have p147 : 0 ≤ (x3_1 : Int) := of_decide_eq_true (by first | (with_reducible assumption) | assumption)
              have q147 : x3_1 < (l0.length : Int) := of_decide_eq_true (by first | (with_reducible assumption) | assumption)
              obtain ⟨ad147, e147, hx147_0⟩ := Kd.at_int HR0.out x3_1 p147 q147
              obtain rfl : ad146 = ad147 := (by injection e147)
              replace p147 := eq_true p147
              replace q147 := eq_true q147
              go_wp2
              go_ret
              exact ⟨by first | rfl | (simp; done) | (simp [*]; done), by repeat (first | exact Drawn0.refl _ | apply Drawn0.step)⟩
            · rw [if_neg c5] at H
              have c5b0 : decide ((l0.length : Int) ≤ (rd l0 x3_1)) = false := decide_eq_false c5
              clear c5
              have H' := Aside0.mk H
              clear H
              have p146 : 0 ≤ (x3_1 : Int) := of_decide_eq_true (by first | (with_reducible assumption) | assumption)
              have q146 : x3_1 < (l0.length : Int) := of_decide_eq_true (by first | (with_reducible assumption) | assumption)
              obtain ⟨ad146, e146, hx146_0⟩ := Kd.at_int HR0.out x3_1 p146 q146
              cases e146
              replace p146 := eq_true p146
              replace q146 := eq_true q146
              have p147 : 0 ≤ (x3_1 : Int) := of_decide_eq_true (by first | (with_reducible assumption) | assumption)
              have q147 : x3_1 < (l0.length : Int) := of_decide_eq_true (by first | (with_reducible assumption) | assumption)
              obtain ⟨ad147, e147, hx147_0⟩ := Kd.at_int HR0.out x3_1 p147 q147
              obtain rfl : ad146 = ad147 := (by injection e147)
              replace p147 := eq_true p147
              replace q147 := eq_true q147
              go_wp2
              go_roundg k1
              case measure => have := HK1.out; omega
              case rel => exact ⟨(wrap64 (x3_1 + 1)), (by first | rfl | (simp; done) | (simp [*]; done)), H', ⟨by have := HK1.out; omega⟩, by repeat (first | exact Drawn0.refl _ | apply Drawn0.step)⟩
        · rw [if_neg c3] at H
          exact absurd H (by simp)
      · rw [if_neg c2] at H
        have c2b0 : decide (x3_1 < (l0.length : Int)) = false := decide_eq_false c2
        clear c2
        have H' := Aside0.mk H
        clear H
        go_wp2
        go_loopg [4] k1 (fun kq v4 w' => ∃ (x4_2 : Int), v4 = .int .i64 x4_2 ∧ Aside0 (merkhetref10_Right.l1 kq l0 x4_2 = some r) ∧ Aside0 (kq ≤ k1) ∧ Drawn0 w w')
        case atStart => exact ⟨(0), (by first | rfl | (simp; done) | (simp [*]; done)), H', ⟨Nat.le_refl _⟩, by repeat (first | exact Drawn0.refl _ | apply Drawn0.step)⟩
        case round =>
          clear H'
          try clear p1
          try clear q1
          try clear hx1
          try clear c2
          try clear c2b0
          try clear p2
          try clear c3
          try clear c3b0
          try clear c4
          try clear c4b0
          try clear c5
          try clear c5b0
          try clear hx146_0
          try clear hx147_0
          try clear p146
          try clear p147
          try clear q146
          try clear q147
          obtain ⟨x4_2, rfl, HA, HK2, ⟨m2, rfl⟩⟩ := hrel
          cases gk with
          | zero => exact absurd HA.out (by simp [merkhetref10_Right.l1])
          | succ k2 =>
            have H := HA.out
            clear HA
            simp only [merkhetref10_Right.l1] at H
            by_cases c6 : x4_2 < (l0.length : Int)
            · rw [if_pos c6] at H
              have c6b0 : decide (x4_2 < (l0.length : Int)) = true := decide_eq_true c6
              clear c6
              replace H := Option.bind_eq_some_iff.mp H
              obtain ⟨t148, A70, H⟩ := H
              replace H : (if t148 ≥ 0 then (some false) else (merkhetref10_Right.l1 k2 l0 (wrap64 (x4_2 + 1)))) = some r := H
              have A7 := Aside0.mk A70
              clear A70
              by_cases c8 : t148 ≥ 0
              · rw [if_pos c8] at H
                have c8b0 : decide (0 ≤ t148) = true := decide_eq_true c8
                clear c8
                obtain rfl := Option.some.inj H
                go_wp2_with (first | ((with_reducible refine gate_callee (f := 43) rfl ?_); refine goesL_ (some 36) rfl rfl Try.func43 (by kernel_rfl) rfl #[.slice A0 l0.length c0, .int .i64 x4_2, .int .i64 (wrap64 ((l0.length : Int) + 1))] rfl (by (try simp only [List.map_toArray, List.map_cons, List.map_nil]); first | done | rfl | (simp only [List.length_drop, List.length_take]; rfl)) ?_; (with_reducible refine (merkhetref10_up.calls k2 _ _ l0 x4_2 (wrap64 ((l0.length : Int) + 1)) t148 _ ?side1 ?side2 A7.out).mono ?_); (case side1 => repeat (first | exact HR0.out | (with_reducible refine Kd.C_alloc ?_ _) | (with_reducible refine Kd.C_drewN ?_ _) | (with_reducible refine Kd.C_drew ?_))); (case side2 => exact HC0.out); rintro e w' ⟨rfl, ⟨nd, rfl⟩⟩; refine ⟨_, rfl, ?_⟩))
                go_ret
                exact ⟨by first | rfl | (simp; done) | (simp [*]; done), by repeat (first | exact Drawn0.refl _ | apply Drawn0.step)⟩
              · rw [if_neg c8] at H
                have c8b0 : decide (0 ≤ t148) = false := decide_eq_false c8
                clear c8
                have H' := Aside0.mk H
                clear H
                go_wp2_with (first | ((with_reducible refine gate_callee (f := 43) rfl ?_); refine goesL_ (some 36) rfl rfl Try.func43 (by kernel_rfl) rfl #[.slice A0 l0.length c0, .int .i64 x4_2, .int .i64 (wrap64 ((l0.length : Int) + 1))] rfl (by (try simp only [List.map_toArray, List.map_cons, List.map_nil]); first | done | rfl | (simp only [List.length_drop, List.length_take]; rfl)) ?_; (with_reducible refine (merkhetref10_up.calls k2 _ _ l0 x4_2 (wrap64 ((l0.length : Int) + 1)) t148 _ ?side1 ?side2 A7.out).mono ?_); (case side1 => repeat (first | exact HR0.out | (with_reducible refine Kd.C_alloc ?_ _) | (with_reducible refine Kd.C_drewN ?_ _) | (with_reducible refine Kd.C_drew ?_))); (case side2 => exact HC0.out); rintro e w' ⟨rfl, ⟨nd, rfl⟩⟩; refine ⟨_, rfl, ?_⟩))
                go_roundg k2
                case measure => have := HK1.out; have := HK2.out; omega
                case rel => exact ⟨(wrap64 (x4_2 + 1)), (by first | rfl | (simp; done) | (simp [*]; done)), H', ⟨by have := HK1.out; have := HK2.out; omega⟩, by repeat (first | exact Drawn0.refl _ | apply Drawn0.step)⟩
            · rw [if_neg c6] at H
              have c6b0 : decide (x4_2 < (l0.length : Int)) = false := decide_eq_false c6
              clear c6
              obtain rfl := Option.some.inj H
              go_wp2
              go_ret
              exact ⟨by first | rfl | (simp; done) | (simp [*]; done), by repeat (first | exact Drawn0.refl _ | apply Drawn0.step)⟩

/-! ### merkhetlaw10_ParentRight: function 7 -/
def merkhetlaw10_ParentRight.f (k : Nat) (l0 : List Int) : Option (Bool) := if (l0.length : Int) > 60 then ((merkhetlaw10_fixed.f k).bind fun t149 => (some t149)) else ((merkhetlaw10_fixed.f k).bind fun t150 => (if t150 = true then ((parent_Right.f k l0).bind fun t151 => ((merkhetref10_Right.f k l0).bind fun t152 => (some (t151 == t152)))) else (some false)))
theorem merkhetlaw10_ParentRight.mono : ∀ a0 k, LeO (merkhetlaw10_ParentRight.f k a0) (merkhetlaw10_ParentRight.f (k + 1) a0) := by
  intro a0 k
  unfold merkhetlaw10_ParentRight.f
  repeat' first
      | (with_reducible exact merkhetlaw10_fixed.mono _)
      | (with_reducible exact merkhetref10_Right.mono _ _)
      | (with_reducible exact parent_Right.mono _ _)
      | (with_reducible exact LeO.refl _)
      | (with_reducible exact LeO.none _)
      | (with_reducible refine LeO.ite ?_ ?_)
      | (with_reducible refine LeO.bind ?_ (fun _ => ?_))
      | exact merkhetlaw10_fixed.mono _
      | exact merkhetref10_Right.mono _ _
      | exact parent_Right.mono _ _
      | exact LeO.none _
      | refine LeO.ite ?_ ?_
      | refine LeO.bind ?_ (fun _ => ?_)
set_option maxHeartbeats 8000000 in
set_option maxRecDepth 100000 in
theorem merkhetlaw10_ParentRight.calls (k : Nat) (A0 : Option Addr) (c0 : Nat) (l0 : List Int) (r : Bool) (w : World) (hr0 : Kd.C (Kd.int .i64) w A0 l0.length l0) (hc0 : l0.length ≤ c0) (h : merkhetlaw10_ParentRight.f k l0 = some r) :
    Calls Try.prog 7 #[.slice A0 l0.length c0] w fun e w' => e = .returned (.bool r) ∧ Below w.heap.size w w' := by
  have HR0 := Aside0.mk hr0
  have HC0 := Aside0.mk hc0
  clear hr0 hc0
  have HB := Aside0.mk (Below.refl w.heap.size w)
  have H : (if (l0.length : Int) > 60 then ((merkhetlaw10_fixed.f k).bind fun t149 => (some t149)) else ((merkhetlaw10_fixed.f k).bind fun t150 => (if t150 = true then ((parent_Right.f k l0).bind fun t151 => ((merkhetref10_Right.f k l0).bind fun t152 => (some (t151 == t152)))) else (some false)))) = some r := h
  clear h
  by_cases c2 : (l0.length : Int) > 60
  · rw [if_pos c2] at H
    have c2b0 : decide (60 < (l0.length : Int)) = true := decide_eq_true c2
    have c2b1 : decide (60 < l0.length) = true := decide_eq_true (by omega)
    clear c2
    replace H := Option.bind_eq_some_iff.mp H
    obtain ⟨t149, A30, H⟩ := H
    replace H : (some t149) = some r := H
    have A3 := Aside0.mk A30
    clear A30
    obtain rfl := Option.some.inj H
    go_enter Try.func7, Try.ntmps7
    go_wp2_with (first | ((with_reducible refine gate_callee (f := 15) rfl ?_); refine goesL_ (some 6) rfl rfl Try.func15 (by kernel_rfl) rfl #[] rfl (by (try simp only [List.map_toArray, List.map_cons, List.map_nil]); first | done | rfl | (simp only [List.length_drop, List.length_take]; rfl)) ?_; (with_reducible refine (merkhetlaw10_fixed.calls k  t149 _ A3.out).mono ?_); rintro e w4 ⟨rfl, hb⟩; refine ⟨_, rfl, ?_⟩; have n0_ := Aside0.mk (below_step (by repeat (first | (with_reducible first | exact HB.out | apply below_alloc | apply pw_below_drewN | apply below_drew1) | exact HB.out)) hb); clear HB; have HB := n0_; clear n0_; (try clear hb); (try clear hb2); (try clear hk); (try clear hi)))
    go_ret
    exact ⟨by first | rfl | (simp [errW_none, errW_some] <;> rfl) | (simp [*, errW_none, errW_some] <;> rfl), by repeat (first | (with_reducible first | exact HB.out | apply below_alloc | apply pw_below_drewN | apply below_drew1) | exact HB.out)⟩
  · rw [if_neg c2] at H
    have c2b0 : decide (60 < (l0.length : Int)) = false := decide_eq_false c2
    have c2b1 : decide (60 < l0.length) = false := decide_eq_false (by omega)
    clear c2
    replace H := Option.bind_eq_some_iff.mp H
    obtain ⟨t150, A50, H⟩ := H
    replace H : (if t150 = true then ((parent_Right.f k l0).bind fun t151 => ((merkhetref10_Right.f k l0).bind fun t152 => (some (t151 == t152)))) else (some false)) = some r := H
    have A5 := Aside0.mk A50
    clear A50
    by_cases c6 : t150 = true
    · subst c6
      have H1 : ((parent_Right.f k l0).bind fun t151 => ((merkhetref10_Right.f k l0).bind fun t152 => (some (t151 == t152)))) = some r := by rw [if_pos rfl] at H; exact H
      clear H
      have H := H1
      clear H1
      replace H := Option.bind_eq_some_iff.mp H
      obtain ⟨t151, A70, H⟩ := H
      replace H : ((merkhetref10_Right.f k l0).bind fun t152 => (some (t151 == t152))) = some r := H
      have A7 := Aside0.mk A70
      clear A70
      replace H := Option.bind_eq_some_iff.mp H
      obtain ⟨t152, A80, H⟩ := H
      replace H : (some (t151 == t152)) = some r := H
      have A8 := Aside0.mk A80
      clear A80
      obtain rfl := Option.some.inj H
      go_enter Try.func7, Try.ntmps7
      go_wp2_with (first | ((with_reducible refine gate_callee (f := 15) rfl ?_); refine goesL_ (some 7) rfl rfl Try.func15 (by kernel_rfl) rfl #[] rfl (by (try simp only [List.map_toArray, List.map_cons, List.map_nil]); first | done | rfl | (simp only [List.length_drop, List.length_take]; rfl)) ?_; (with_reducible refine (merkhetlaw10_fixed.calls k  true _ A5.out).mono ?_); rintro e w9 ⟨rfl, hb⟩; refine ⟨_, rfl, ?_⟩; have n0_ := Aside0.mk (below_step (by repeat (first | (with_reducible first | exact HB.out | apply below_alloc | apply pw_below_drewN | apply below_drew1) | exact HB.out)) hb); clear HB; have HB := n0_; clear n0_; (try clear hb); (try clear hb2); (try clear hk); (try clear hi)) | (go_at_call 25; (with_reducible refine (parent_Right.calls k _ _ l0 t151 _ ?side1 ?side2 A7.out).mono ?_); (case side1 => repeat (first | exact (Kd.C_below HR0.out HB.out) | (with_reducible refine Kd.C_alloc ?_ _) | (with_reducible refine Kd.C_drewN ?_ _) | (with_reducible refine Kd.C_drew ?_))); (case side2 => exact HC0.out); rintro e w10 ⟨rfl, hb⟩; have n0_ := Aside0.mk (below_step (by repeat (first | (with_reducible first | exact HB.out | apply below_alloc | apply pw_below_drewN | apply below_drew1) | exact HB.out)) hb); clear HB; have HB := n0_; clear n0_; (try clear hb); (try clear hb2); (try clear hk); (try clear hi)) | (go_at_call 26; (with_reducible refine (merkhetref10_Right.calls k _ _ l0 t152 _ ?side1 ?side2 A8.out).mono ?_); (case side1 => repeat (first | exact (Kd.C_below HR0.out HB.out) | (with_reducible refine Kd.C_alloc ?_ _) | (with_reducible refine Kd.C_drewN ?_ _) | (with_reducible refine Kd.C_drew ?_))); (case side2 => exact HC0.out); rintro e w' ⟨rfl, ⟨nd, rfl⟩⟩))
      go_ret
      exact ⟨by first | rfl | (simp [errW_none, errW_some] <;> rfl) | (simp [*, errW_none, errW_some] <;> rfl), by repeat (first | (with_reducible first | exact HB.out | apply below_alloc | apply pw_below_drewN | apply below_drew1) | exact HB.out)⟩
    · replace c6 := Bool.eq_false_iff.mpr c6
      subst c6
      have H1 : (some false) = some r := by rw [if_neg (show ¬ (false = true) by decide)] at H; exact H
      clear H
      have H := H1
      clear H1
      obtain rfl := Option.some.inj H
      go_enter Try.func7, Try.ntmps7
      go_wp2_with (first | ((with_reducible refine gate_callee (f := 15) rfl ?_); refine goesL_ (some 7) rfl rfl Try.func15 (by kernel_rfl) rfl #[] rfl (by (try simp only [List.map_toArray, List.map_cons, List.map_nil]); first | done | rfl | (simp only [List.length_drop, List.length_take]; rfl)) ?_; (with_reducible refine (merkhetlaw10_fixed.calls k  false _ A5.out).mono ?_); rintro e w11 ⟨rfl, hb⟩; refine ⟨_, rfl, ?_⟩; have n0_ := Aside0.mk (below_step (by repeat (first | (with_reducible first | exact HB.out | apply below_alloc | apply pw_below_drewN | apply below_drew1) | exact HB.out)) hb); clear HB; have HB := n0_; clear n0_; (try clear hb); (try clear hb2); (try clear hk); (try clear hi)))
      go_ret
      exact ⟨by first | rfl | (simp [errW_none, errW_some] <;> rfl) | (simp [*, errW_none, errW_some] <;> rfl), by repeat (first | (with_reducible first | exact HB.out | apply below_alloc | apply pw_below_drewN | apply below_drew1) | exact HB.out)⟩

/-- THE ONE PURE STATEMENT of merkhetlaw10_ParentRight: yours. -/
def merkhetlaw10_ParentRight.Pure : Prop := ∀ (l0 : List Int), l0.length ≤ maxLen → l0.length * 8 ≤ 140737488351232 → (∀ x ∈ l0, (Lit.int .i64 x).wf = true) → ∃ k, merkhetlaw10_ParentRight.f k l0 = some true
theorem merkhetlaw10_ParentRight.walk (P : merkhetlaw10_ParentRight.Pure) (a0 : Option Addr) (len0 cap0 : Nat) (z0 : List Int) (w : World) (w0 : (a0 = none ∧ len0 = 0 ∧ cap0 = 0 ∧ z0 = []) ∨ ∃ x, a0 = some x ∧ len0 ≤ cap0 ∧ cap0 ≤ maxLen ∧ z0.length = cap0 ∧ (∀ i, i < z0.length → w.cell? (x.add i) = some (.int .i64 (z0.getD i 0))) ∧ ∀ n ∈ z0, (Lit.int .i64 n).wf = true) (y0 : len0 * 8 ≤ 140737488351232) :
    Calls Try.prog 7 #[.slice a0 len0 cap0] w fun e w' => e = .returned (.bool true) ∧ Below w.heap.size w w' := by
  obtain ⟨l0, rfl, hr0, hm0, hw0, hc0⟩ := ReadsInt.ofRowC w0
  obtain ⟨k, h⟩ := P l0 hm0 y0 hw0
  refine (merkhetlaw10_ParentRight.calls k _ _ l0 true w (Kd.C_of_reads (d := (0 : Int)) (h1 := fun _ => rfl) hr0) hc0 h).mono ?_
  rintro e w' ⟨rfl, hd⟩
  exact ⟨rfl, hd⟩

/-! ### merkhetlaw10_loop: function 27 -/
mutual
def merkhetlaw10_loop.l0 : Nat → List (S37) → Int → Int → Int → Int → Option (Bool)
  | 0, _, _, _, _, _ => none
  | k + 1, x0, x1, x5, x14, x15 => if x15 < x14 then (merkhetlaw10_loop.l1 k x0 x1 x5 (-1) (wrap64 ((x0.length : Int) - 1)) x14 x15) else (some false)
def merkhetlaw10_loop.l1 : Nat → List (S37) → Int → Int → Int → Int → Int → Int → Option (Bool)
  | 0, _, _, _, _, _, _, _ => none
  | k + 1, x0, x1, x5, x6, x7, x14, x15 => if x7 ≥ 0 then (if 0 ≤ x7 then (if x7 < (x0.length : Int) then (if ((rd_T37 x0 x7).f1) = x5 then (merkhetlaw10_loop.l1 k x0 x1 x5 x7 (wrap64 (x7 - 1)) x14 x15) else (merkhetlaw10_loop.l1 k x0 x1 x5 x6 (wrap64 (x7 - 1)) x14 x15)) else (none)) else (none)) else (if x6 = x1 then (some true) else (if x6 < 0 then (some false) else (if 0 ≤ x6 then (if x6 < (x0.length : Int) then (if ((rd_T37 x0 x6).f2) = 0 then (some false) else (merkhetlaw10_loop.l0 k x0 x1 ((rd_T37 x0 x6).f2) x14 (wrap64 (x15 + 1)))) else (none)) else (none))))
end
def merkhetlaw10_loop.f (k : Nat) (l0 : List (S37)) (a1 : Int) : Option (Bool) := if 0 ≤ a1 then (if a1 < (l0.length : Int) then (merkhetlaw10_loop.l0 k l0 a1 ((rd_T37 l0 a1).f2) (l0.length : Int) 0) else (none)) else (none)
theorem merkhetlaw10_loop.mono_l : ∀ k, (∀ y0 y1 y2 y3 y4, LeO (merkhetlaw10_loop.l0 k y0 y1 y2 y3 y4) (merkhetlaw10_loop.l0 (k + 1) y0 y1 y2 y3 y4)) ∧ (∀ y0 y1 y2 y3 y4 y5 y6, LeO (merkhetlaw10_loop.l1 k y0 y1 y2 y3 y4 y5 y6) (merkhetlaw10_loop.l1 (k + 1) y0 y1 y2 y3 y4 y5 y6))
  | 0 => ⟨fun _ _ _ _ _ r h => by simp [merkhetlaw10_loop.l0] at h, fun _ _ _ _ _ _ _ r h => by simp [merkhetlaw10_loop.l1] at h⟩
  | k + 1 => by
    obtain ⟨ih0, ih1⟩ := merkhetlaw10_loop.mono_l k
    refine ⟨?_, ?_⟩
    · intro y0 y1 y2 y3 y4
      unfold merkhetlaw10_loop.l0
      repeat' first
      | (with_reducible exact ih0 _ _ _ _ _)
      | (with_reducible exact ih1 _ _ _ _ _ _ _)
      | (with_reducible exact LeO.refl _)
      | (with_reducible exact LeO.none _)
      | (with_reducible refine LeO.ite ?_ ?_)
      | (with_reducible refine LeO.bind ?_ (fun _ => ?_))
      | exact ih0 _ _ _ _ _
      | exact ih1 _ _ _ _ _ _ _
      | exact LeO.none _
      | refine LeO.ite ?_ ?_
      | refine LeO.bind ?_ (fun _ => ?_)
    · intro y0 y1 y2 y3 y4 y5 y6
      unfold merkhetlaw10_loop.l1
      repeat' first
      | (with_reducible exact ih0 _ _ _ _ _)
      | (with_reducible exact ih1 _ _ _ _ _ _ _)
      | (with_reducible exact LeO.refl _)
      | (with_reducible exact LeO.none _)
      | (with_reducible refine LeO.ite ?_ ?_)
      | (with_reducible refine LeO.bind ?_ (fun _ => ?_))
      | exact ih0 _ _ _ _ _
      | exact ih1 _ _ _ _ _ _ _
      | exact LeO.none _
      | refine LeO.ite ?_ ?_
      | refine LeO.bind ?_ (fun _ => ?_)
theorem merkhetlaw10_loop.mono : ∀ a0 a1 k, LeO (merkhetlaw10_loop.f k a0 a1) (merkhetlaw10_loop.f (k + 1) a0 a1) := by
  intro a0 a1 k
  obtain ⟨ih0, ih1⟩ := merkhetlaw10_loop.mono_l k
  unfold merkhetlaw10_loop.f
  repeat' first
      | (with_reducible exact ih0 _ _ _ _ _)
      | (with_reducible exact ih1 _ _ _ _ _ _ _)
      | (with_reducible exact LeO.refl _)
      | (with_reducible exact LeO.none _)
      | (with_reducible refine LeO.ite ?_ ?_)
      | (with_reducible refine LeO.bind ?_ (fun _ => ?_))
      | exact ih0 _ _ _ _ _
      | exact ih1 _ _ _ _ _ _ _
      | exact LeO.none _
      | refine LeO.ite ?_ ?_
      | refine LeO.bind ?_ (fun _ => ?_)
set_option maxHeartbeats 8000000 in
set_option maxRecDepth 100000 in
theorem merkhetlaw10_loop.calls (k : Nat) (A0 : Option Addr) (c0 : Nat) (l0 : List (S37)) (a1 : Int) (r : Bool) (w : World) (hr0 : Kd.C k37 w A0 l0.length l0) (hc0 : l0.length ≤ c0) (h : merkhetlaw10_loop.f k l0 a1 = some r) :
    Calls Try.prog 27 #[.slice A0 l0.length c0, .int .i64 a1] w fun e w' => e = .returned (.bool r) ∧ Drawn0 w w' := by
  have HR0 := Aside0.mk hr0
  have HC0 := Aside0.mk hc0
  clear hr0 hc0
  have H : (if 0 ≤ a1 then (if a1 < (l0.length : Int) then (merkhetlaw10_loop.l0 k l0 a1 ((rd_T37 l0 a1).f2) (l0.length : Int) 0) else (none)) else (none)) = some r := h
  clear h
  by_cases c3 : 0 ≤ a1
  · rw [if_pos c3] at H
    have c3b0 : decide (0 ≤ a1) = true := decide_eq_true c3
    clear c3
    by_cases c4 : a1 < (l0.length : Int)
    · rw [if_pos c4] at H
      have c4b0 : decide (a1 < (l0.length : Int)) = true := decide_eq_true c4
      clear c4
      have H' := Aside0.mk H
      clear H
      have p153 : 0 ≤ (a1 : Int) := of_decide_eq_true (by first | (with_reducible assumption) | assumption)
      have q153 : a1 < (l0.length : Int) := of_decide_eq_true (by first | (with_reducible assumption) | assumption)
      obtain ⟨ad153, e153, hx153_0, hx153_1, hx153_2, hx153_3, hx153_4, hx153_5, hx153_6, hx153_7⟩ := at_T37 HR0.out a1 p153 q153
      cases e153
      replace p153 := eq_true p153
      replace q153 := eq_true q153
      go_enter Try.func27, Try.ntmps27
      go_wp2
      go_loopg [5, 15] k (fun kq v5 v15 w' => ∃ (x5_1 : Int) (x15_1 : Int), v5 = .int .u64 x5_1 ∧ v15 = .int .i64 x15_1 ∧ Aside0 (merkhetlaw10_loop.l0 kq l0 a1 x5_1 (l0.length : Int) x15_1 = some r) ∧ Aside0 (kq ≤ k) ∧ Drawn0 w w')
      case atStart => exact ⟨((rd_T37 l0 a1).f2), (0), (by first | rfl | (simp; done) | (simp [*]; done)), (by first | rfl | (simp; done) | (simp [*]; done)), H', ⟨Nat.le_refl _⟩, by repeat (first | exact Drawn0.refl _ | apply Drawn0.step)⟩
      case round =>
        clear H'
        try clear p1
        try clear q1
        try clear hx1
        try clear c2
        try clear p2
        try clear c3
        try clear c3b0
        try clear c4
        try clear c4b0
        try clear hx153_0
        try clear hx153_1
        try clear hx153_2
        try clear hx153_3
        try clear hx153_4
        try clear hx153_5
        try clear hx153_6
        try clear hx153_7
        try clear p153
        try clear q153
        obtain ⟨x5_1, x15_1, rfl, rfl, HA, HK1, ⟨m1, rfl⟩⟩ := hrel
        cases gk with
        | zero => exact absurd HA.out (by simp [merkhetlaw10_loop.l0])
        | succ k1 =>
          have H := HA.out
          clear HA
          simp only [merkhetlaw10_loop.l0] at H
          by_cases c5 : x15_1 < (l0.length : Int)
          · rw [if_pos c5] at H
            have c5b0 : decide (x15_1 < (l0.length : Int)) = true := decide_eq_true c5
            clear c5
            have H' := Aside0.mk H
            clear H
            go_wp2
            go_loopg [6, 7] k1 (fun kq v6 v7 w' => ∃ (x6_2 : Int) (x7_2 : Int), v6 = .int .i64 x6_2 ∧ v7 = .int .i64 x7_2 ∧ Aside0 (merkhetlaw10_loop.l1 kq l0 a1 x5_1 x6_2 x7_2 (l0.length : Int) x15_1 = some r) ∧ Aside0 (kq ≤ k1) ∧ Drawn0 w w')
            case atStart => exact ⟨((-1)), (wrap64 ((l0.length : Int) - 1)), (by first | rfl | (simp; done) | (simp [*]; done)), (by first | rfl | (simp; done) | (simp [*]; done)), H', ⟨Nat.le_refl _⟩, by repeat (first | exact Drawn0.refl _ | apply Drawn0.step)⟩
            case round =>
              clear H'
              try clear p1
              try clear q1
              try clear hx1
              try clear c2
              try clear p2
              try clear c3
              try clear c3b0
              try clear c4
              try clear c4b0
              try clear c5
              try clear c5b0
              try clear hx153_0
              try clear hx153_1
              try clear hx153_2
              try clear hx153_3
              try clear hx153_4
              try clear hx153_5
              try clear hx153_6
              try clear hx153_7
              try clear p1
              try clear p153
              try clear p2
              try clear q1
              try clear q153
              obtain ⟨x6_2, x7_2, rfl, rfl, HA, HK2, ⟨m2, rfl⟩⟩ := hrel
              cases gk with
              | zero => exact absurd HA.out (by simp [merkhetlaw10_loop.l1])
              | succ k2 =>
                have H := HA.out
                clear HA
                simp only [merkhetlaw10_loop.l1] at H
                by_cases c6 : x7_2 ≥ 0
                · rw [if_pos c6] at H
                  have c6b0 : decide (0 ≤ x7_2) = true := decide_eq_true c6
                  clear c6
                  by_cases c7 : 0 ≤ x7_2
                  · rw [if_pos c7] at H
                    have c7b0 : decide (0 ≤ x7_2) = true := decide_eq_true c7
                    clear c7
                    by_cases c8 : x7_2 < (l0.length : Int)
                    · rw [if_pos c8] at H
                      have c8b0 : decide (x7_2 < (l0.length : Int)) = true := decide_eq_true c8
                      clear c8
                      by_cases c9 : ((rd_T37 l0 x7_2).f1) = x5_1
                      · rw [if_pos c9] at H
                        have c9b0 : (((rd_T37 l0 x7_2).f1) == x5_1) = true := beq_iff_eq.mpr c9
                        have c9b1 : (((rd_T37 l0 x7_2).f1) != x5_1) = false := bne_eq_false_iff_eq.mpr c9
                        clear c9
                        have H' := Aside0.mk H
                        clear H
                        have p154 : 0 ≤ (x7_2 : Int) := of_decide_eq_true (by first | (with_reducible assumption) | assumption)
                        have q154 : x7_2 < (l0.length : Int) := of_decide_eq_true (by first | (with_reducible assumption) | assumption)
                        obtain ⟨ad154, e154, hx154_0, hx154_1, hx154_2, hx154_3, hx154_4, hx154_5, hx154_6, hx154_7⟩ := at_T37 HR0.out x7_2 p154 q154
                        obtain rfl : ad153 = ad154 := (by injection e154)
                        replace p154 := eq_true p154
                        replace q154 := eq_true q154
                        go_wp2
                        go_roundg k2
                        case measure => have := HK1.out; have := HK2.out; omega
                        case rel => exact ⟨(x7_2), (wrap64 (x7_2 - 1)), (by first | rfl | (simp; done) | (simp [*]; done)), (by first | rfl | (simp; done) | (simp [*]; done)), H', ⟨by have := HK1.out; have := HK2.out; omega⟩, by repeat (first | exact Drawn0.refl _ | apply Drawn0.step)⟩
                      · rw [if_neg c9] at H
                        have c9b0 : (((rd_T37 l0 x7_2).f1) == x5_1) = false := beq_eq_false_iff_ne.mpr c9
                        have c9b1 : (((rd_T37 l0 x7_2).f1) != x5_1) = true := bne_iff_ne.mpr c9
                        have H' := Aside0.mk H
                        clear H
                        have p154 : 0 ≤ (x7_2 : Int) := of_decide_eq_true (by first | (with_reducible assumption) | assumption)
                        have q154 : x7_2 < (l0.length : Int) := of_decide_eq_true (by first | (with_reducible assumption) | assumption)
                        obtain ⟨ad154, e154, hx154_0, hx154_1, hx154_2, hx154_3, hx154_4, hx154_5, hx154_6, hx154_7⟩ := at_T37 HR0.out x7_2 p154 q154
                        obtain rfl : ad153 = ad154 := (by injection e154)
                        replace p154 := eq_true p154
                        replace q154 := eq_true q154
                        go_wp2
                        go_roundg k2
                        case measure => have := HK1.out; have := HK2.out; omega
                        case rel => exact ⟨(x6_2), (wrap64 (x7_2 - 1)), (by first | rfl | (simp; done) | (simp [*]; done)), (by first | rfl | (simp; done) | (simp [*]; done)), H', ⟨by have := HK1.out; have := HK2.out; omega⟩, by repeat (first | exact Drawn0.refl _ | apply Drawn0.step)⟩
                    · rw [if_neg c8] at H
                      exact absurd H (by simp)
                  · rw [if_neg c7] at H
                    exact absurd H (by simp)
                · rw [if_neg c6] at H
                  have c6b0 : decide (0 ≤ x7_2) = false := decide_eq_false c6
                  clear c6
                  by_cases c10 : x6_2 = a1
                  · rw [if_pos c10] at H
                    have c10b0 : (x6_2 == a1) = true := beq_iff_eq.mpr c10
                    have c10b1 : (x6_2 != a1) = false := bne_eq_false_iff_eq.mpr c10
                    clear c10
                    obtain rfl := Option.some.inj H
                    go_wp2
                    go_ret
                    exact ⟨by first | rfl | (simp; done) | (simp [*]; done), by repeat (first | exact Drawn0.refl _ | apply Drawn0.step)⟩
                  · rw [if_neg c10] at H
                    have c10b0 : (x6_2 == a1) = false := beq_eq_false_iff_ne.mpr c10
                    have c10b1 : (x6_2 != a1) = true := bne_iff_ne.mpr c10
                    by_cases c11 : x6_2 < 0
                    · rw [if_pos c11] at H
                      have c11b0 : decide (x6_2 < 0) = true := decide_eq_true c11
                      clear c11
                      obtain rfl := Option.some.inj H
                      go_wp2
                      go_ret
                      exact ⟨by first | rfl | (simp; done) | (simp [*]; done), by repeat (first | exact Drawn0.refl _ | apply Drawn0.step)⟩
                    · rw [if_neg c11] at H
                      have c11b0 : decide (x6_2 < 0) = false := decide_eq_false c11
                      clear c11
                      by_cases c12 : 0 ≤ x6_2
                      · rw [if_pos c12] at H
                        have c12b0 : decide (0 ≤ x6_2) = true := decide_eq_true c12
                        clear c12
                        by_cases c13 : x6_2 < (l0.length : Int)
                        · rw [if_pos c13] at H
                          have c13b0 : decide (x6_2 < (l0.length : Int)) = true := decide_eq_true c13
                          clear c13
                          by_cases c14 : ((rd_T37 l0 x6_2).f2) = 0
                          · rw [if_pos c14] at H
                            have c14b0 : (((rd_T37 l0 x6_2).f2) == 0) = true := beq_iff_eq.mpr c14
                            have c14b1 : (((rd_T37 l0 x6_2).f2) != 0) = false := bne_eq_false_iff_eq.mpr c14
                            clear c14
                            obtain rfl := Option.some.inj H
                            have p155 : 0 ≤ (x6_2 : Int) := of_decide_eq_true (by first | (with_reducible assumption) | assumption)
                            have q155 : x6_2 < (l0.length : Int) := of_decide_eq_true (by first | (with_reducible assumption) | assumption)
                            obtain ⟨ad155, e155, hx155_0, hx155_1, hx155_2, hx155_3, hx155_4, hx155_5, hx155_6, hx155_7⟩ := at_T37 HR0.out x6_2 p155 q155
                            obtain rfl : ad153 = ad155 := (by injection e155)
                            replace p155 := eq_true p155
                            replace q155 := eq_true q155
                            go_wp2
                            go_ret
                            exact ⟨by first | rfl | (simp; done) | (simp [*]; done), by repeat (first | exact Drawn0.refl _ | apply Drawn0.step)⟩
                          · rw [if_neg c14] at H
                            have c14b0 : (((rd_T37 l0 x6_2).f2) == 0) = false := beq_eq_false_iff_ne.mpr c14
                            have c14b1 : (((rd_T37 l0 x6_2).f2) != 0) = true := bne_iff_ne.mpr c14
                            have H' := Aside0.mk H
                            clear H
                            have p155 : 0 ≤ (x6_2 : Int) := of_decide_eq_true (by first | (with_reducible assumption) | assumption)
                            have q155 : x6_2 < (l0.length : Int) := of_decide_eq_true (by first | (with_reducible assumption) | assumption)
                            obtain ⟨ad155, e155, hx155_0, hx155_1, hx155_2, hx155_3, hx155_4, hx155_5, hx155_6, hx155_7⟩ := at_T37 HR0.out x6_2 p155 q155
                            obtain rfl : ad153 = ad155 := (by injection e155)
                            replace p155 := eq_true p155
                            replace q155 := eq_true q155
                            have p156 : 0 ≤ (x6_2 : Int) := of_decide_eq_true (by first | (with_reducible assumption) | assumption)
                            have q156 : x6_2 < (l0.length : Int) := of_decide_eq_true (by first | (with_reducible assumption) | assumption)
                            obtain ⟨ad156, e156, hx156_0, hx156_1, hx156_2, hx156_3, hx156_4, hx156_5, hx156_6, hx156_7⟩ := at_T37 HR0.out x6_2 p156 q156
                            obtain rfl : ad153 = ad156 := (by injection e156)
                            replace p156 := eq_true p156
                            replace q156 := eq_true q156
                            go_wp2
                            go_roundg k2
                            case measure => have := HK1.out; have := HK2.out; omega
                            case rel => exact ⟨((rd_T37 l0 x6_2).f2), (wrap64 (x15_1 + 1)), (by first | rfl | (simp; done) | (simp [*]; done)), (by first | rfl | (simp; done) | (simp [*]; done)), H', ⟨by have := HK1.out; have := HK2.out; omega⟩, by repeat (first | exact Drawn0.refl _ | apply Drawn0.step)⟩
                        · rw [if_neg c13] at H
                          exact absurd H (by simp)
                      · rw [if_neg c12] at H
                        exact absurd H (by simp)
          · rw [if_neg c5] at H
            have c5b0 : decide (x15_1 < (l0.length : Int)) = false := decide_eq_false c5
            clear c5
            obtain rfl := Option.some.inj H
            go_wp2
            go_ret
            exact ⟨by first | rfl | (simp; done) | (simp [*]; done), by repeat (first | exact Drawn0.refl _ | apply Drawn0.step)⟩
    · rw [if_neg c4] at H
      exact absurd H (by simp)
  · rw [if_neg c3] at H
    exact absurd H (by simp)

end Go.Proofs.Ytcgjplolehhpjaa.U
