-- WRITTEN FOR THIS CLAIM by wip/tools/mp.py, a program of this project that drives the kit's print; the functions that the print does not take are this project's own texts.
import Derived.Test.YtacjlaiddnfpdaaCUx0
import Derived.Test.YtacjlaiddnfpdaaCUx3
import Derived.Test.YtacjlaiddnfpdaaCUx4
import Derived.Test.YtacjlaiddnfpdaaCUx6
namespace Go.Proofs.Ytacjlaiddnfpdaa.CU
open Go.RowKit Go.Proofs.YtacjlaiddnfpdaaW.PrintWords Go.Proofs.YtacjlaiddnfpdaaW.PrintLast Go.Proofs.YtacjlaiddnfpdaaW.PrintMore
attribute [local go_sem] max2_int min2_int max_two min_two max_three min_three max_four min_four   -- for this text's walks alone
set_option linter.unusedVariables false
set_option linter.unusedSimpArgs false

/-! ### merkhetlaw17_CertTurned: function 13 -/
def merkhetlaw17_CertTurned.f (k : Nat) (a0 : Int) (l1 : List (S48)) (a2 : Int) : Option (Bool) := if (l1.length : Int) > 100 then ((merkhetlaw17_fixed.f k).bind fun t193 => (some t193)) else ((loop_Of.f k a0 l1).bind fun t194 => (if (t194.length : Int) = 0 then ((merkhetlaw17_fixed.f k).bind fun t197 => (some t197)) else ((some (([] : List (S48)) : List (S48))).bind fun y198 => (if 0 ≤ (Int.tmod (wrap64 (a2)) (t194.length : Int)) then (if (Int.tmod (wrap64 (a2)) (t194.length : Int)) ≤ (t194.length : Int) then ((some (t194.drop ((Int.tmod (wrap64 (a2)) (t194.length : Int)) : Int).toNat : List (S48))).bind fun y201 => (if y198.length + y201.length < 2932031007402 then ((some (y198 ++ y201 : List (S48))).bind fun y205 => ((some (t194.take ((Int.tmod (wrap64 (a2)) (t194.length : Int)) : Int).toNat : List (S48))).bind fun y208 => (if y205.length + y208.length < 2932031007402 then ((merkhetlaw17_fixed.f k).bind fun t215 => (if t215 = true then ((cert_Chain.f k a0 l1 t194).bind fun t216 => (if t216 = true then ((cert_Chain.f k a0 l1 (y205 ++ y208)).bind fun t217 => (if t217 = true then ((some (([] : List (S48)) : List (S48))).bind fun y218 => (if y218.length + t194.length < 2932031007402 then ((some (y218 ++ t194 : List (S48))).bind fun y221 => (if y221.length + t194.length < 2932031007402 then ((cert_Chain.f k a0 l1 (y221 ++ t194)).bind fun t227 => (if t227 = true then (some false) else (if 0 ≤ (wrap64 ((t194.length : Int) - 1)) then (if (wrap64 ((t194.length : Int) - 1)) ≤ (t194.length : Int) then ((cert_Chain.f k a0 l1 (t194.take ((wrap64 ((t194.length : Int) - 1)) : Int).toNat)).bind fun t232 => (some (!t232))) else (none)) else (none)))) else (none))) else (none))) else (some false))) else (some false))) else (some false))) else (none)))) else (none))) else (none)) else (none)))))
theorem merkhetlaw17_CertTurned.mono : ∀ a0 a1 a2 k, LeO (merkhetlaw17_CertTurned.f k a0 a1 a2) (merkhetlaw17_CertTurned.f (k + 1) a0 a1 a2) := by
  intro a0 a1 a2 k
  unfold merkhetlaw17_CertTurned.f
  repeat' first
      | (with_reducible exact cert_Chain.mono _ _ _ _)
      | (with_reducible exact loop_Of.mono _ _ _)
      | (with_reducible exact merkhetlaw17_fixed.mono _)
      | (with_reducible exact LeO.refl _)
      | (with_reducible exact LeO.none _)
      | (with_reducible refine LeO.ite ?_ ?_)
      | (with_reducible refine LeO.bind ?_ (fun _ => ?_))
      | exact cert_Chain.mono _ _ _ _
      | exact loop_Of.mono _ _ _
      | exact merkhetlaw17_fixed.mono _
      | exact LeO.none _
      | refine LeO.ite ?_ ?_
      | refine LeO.bind ?_ (fun _ => ?_)
def merkhetlaw17_CertTurned.T7 : Bool × List (List Nat × List Nat) := (true, [([], []), ([], []), ([], []), ([1, 2], [1, 2]), ([0, 3], [0, 3]), ([], []), ([], []), ([5, 6], [5, 6]), ([4, 7, 4], [4, 7]), ([8, 8, 0, 1, 2, 3, 4, 5, 6, 7, 8], [8])])
def merkhetlaw17_CertTurned.B7 : List Nat := [0, 0, 0, 6, 15, 0, 0, 96, 255, 511]
theorem merkhetlaw17_CertTurned.tab7 : rtab .any (opsOf Try.f13 7) = merkhetlaw17_CertTurned.T7 := by kernel_rfl
theorem merkhetlaw17_CertTurned.bits7 : waitsOk merkhetlaw17_CertTurned.T7.2 merkhetlaw17_CertTurned.B7 = true := by kernel_rfl
set_option maxHeartbeats 8000000 in
set_option maxRecDepth 100000 in
theorem merkhetlaw17_CertTurned.calls (k : Nat) (a0 : Int) (A1 : Option Addr) (c1 : Nat) (l1 : List (S48)) (a2 : Int) (r : Bool) (w : World) (hr1 : Kd.C k48 w A1 l1.length l1) (hc1 : l1.length ≤ c1) (h : merkhetlaw17_CertTurned.f k a0 l1 a2 = some r) :
    Calls Try.prog 13 #[.int .i64 a0, .slice A1 l1.length c1, .int .u8 a2] w fun e w' => e = .returned (.bool r) ∧ Below w.heap.size w w' := by
  have HR1 := Aside0.mk hr1
  have HC1 := Aside0.mk hc1
  clear hr1 hc1
  have HB := Aside0.mk (Below.refl w.heap.size w)
  have H : (if (l1.length : Int) > 100 then ((merkhetlaw17_fixed.f k).bind fun t193 => (some t193)) else ((loop_Of.f k a0 l1).bind fun t194 => (if (t194.length : Int) = 0 then ((merkhetlaw17_fixed.f k).bind fun t197 => (some t197)) else ((some (([] : List (S48)) : List (S48))).bind fun y198 => (if 0 ≤ (Int.tmod (wrap64 (a2)) (t194.length : Int)) then (if (Int.tmod (wrap64 (a2)) (t194.length : Int)) ≤ (t194.length : Int) then ((some (t194.drop ((Int.tmod (wrap64 (a2)) (t194.length : Int)) : Int).toNat : List (S48))).bind fun y201 => (if y198.length + y201.length < 2932031007402 then ((some (y198 ++ y201 : List (S48))).bind fun y205 => ((some (t194.take ((Int.tmod (wrap64 (a2)) (t194.length : Int)) : Int).toNat : List (S48))).bind fun y208 => (if y205.length + y208.length < 2932031007402 then ((merkhetlaw17_fixed.f k).bind fun t215 => (if t215 = true then ((cert_Chain.f k a0 l1 t194).bind fun t216 => (if t216 = true then ((cert_Chain.f k a0 l1 (y205 ++ y208)).bind fun t217 => (if t217 = true then ((some (([] : List (S48)) : List (S48))).bind fun y218 => (if y218.length + t194.length < 2932031007402 then ((some (y218 ++ t194 : List (S48))).bind fun y221 => (if y221.length + t194.length < 2932031007402 then ((cert_Chain.f k a0 l1 (y221 ++ t194)).bind fun t227 => (if t227 = true then (some false) else (if 0 ≤ (wrap64 ((t194.length : Int) - 1)) then (if (wrap64 ((t194.length : Int) - 1)) ≤ (t194.length : Int) then ((cert_Chain.f k a0 l1 (t194.take ((wrap64 ((t194.length : Int) - 1)) : Int).toNat)).bind fun t232 => (some (!t232))) else (none)) else (none)))) else (none))) else (none))) else (some false))) else (some false))) else (some false))) else (none)))) else (none))) else (none)) else (none)))))) = some r := h
  clear h
  by_cases c4 : (l1.length : Int) > 100
  · rw [if_pos c4] at H
    have c4b0 : decide (100 < (l1.length : Int)) = true := decide_eq_true c4
    have c4b1 : decide (100 < l1.length) = true := decide_eq_true (by omega)
    clear c4
    replace H := Option.bind_eq_some_iff.mp H
    obtain ⟨t193, A50, H⟩ := H
    replace H : (some t193) = some r := H
    have A5 := Aside0.mk A50
    clear A50
    obtain rfl := Option.some.inj H
    go_enter Try.func13, Try.ntmps13
    go_wp2_with (first | ((with_reducible refine gate_callee (f := 15) rfl ?_); refine goesL_ (some 13) rfl rfl Try.func15 (by kernel_rfl) rfl #[] rfl (by (try simp only [List.map_toArray, List.map_cons, List.map_nil]); first | done | rfl | (simp only [List.length_drop, List.length_take]; rfl)) ?_; (with_reducible refine (merkhetlaw17_fixed.calls k  t193 _ A5.out).mono ?_); rintro e w6 ⟨rfl, hb⟩; refine ⟨_, rfl, ?_⟩; have n0_ := Aside0.mk (below_step (by repeat (first | (with_reducible first | exact HB.out | apply below_alloc | apply pw_below_drewN | apply below_drew1) | exact HB.out)) hb); clear HB; have HB := n0_; clear n0_; (try clear hb); (try clear hb2); (try clear hk); (try clear hi)))
    go_ret
    exact ⟨by first | rfl | (simp [errW_none, errW_some] <;> rfl) | (simp [*, errW_none, errW_some] <;> rfl), by repeat (first | (with_reducible first | exact HB.out | apply below_alloc | apply pw_below_drewN | apply below_drew1) | exact HB.out)⟩
  · rw [if_neg c4] at H
    have c4b0 : decide (100 < (l1.length : Int)) = false := decide_eq_false c4
    have c4b1 : decide (100 < l1.length) = false := decide_eq_false (by omega)
    clear c4
    replace H := Option.bind_eq_some_iff.mp H
    obtain ⟨t194, A70, H⟩ := H
    replace H : (if (t194.length : Int) = 0 then ((merkhetlaw17_fixed.f k).bind fun t197 => (some t197)) else ((some (([] : List (S48)) : List (S48))).bind fun y198 => (if 0 ≤ (Int.tmod (wrap64 (a2)) (t194.length : Int)) then (if (Int.tmod (wrap64 (a2)) (t194.length : Int)) ≤ (t194.length : Int) then ((some (t194.drop ((Int.tmod (wrap64 (a2)) (t194.length : Int)) : Int).toNat : List (S48))).bind fun y201 => (if y198.length + y201.length < 2932031007402 then ((some (y198 ++ y201 : List (S48))).bind fun y205 => ((some (t194.take ((Int.tmod (wrap64 (a2)) (t194.length : Int)) : Int).toNat : List (S48))).bind fun y208 => (if y205.length + y208.length < 2932031007402 then ((merkhetlaw17_fixed.f k).bind fun t215 => (if t215 = true then ((cert_Chain.f k a0 l1 t194).bind fun t216 => (if t216 = true then ((cert_Chain.f k a0 l1 (y205 ++ y208)).bind fun t217 => (if t217 = true then ((some (([] : List (S48)) : List (S48))).bind fun y218 => (if y218.length + t194.length < 2932031007402 then ((some (y218 ++ t194 : List (S48))).bind fun y221 => (if y221.length + t194.length < 2932031007402 then ((cert_Chain.f k a0 l1 (y221 ++ t194)).bind fun t227 => (if t227 = true then (some false) else (if 0 ≤ (wrap64 ((t194.length : Int) - 1)) then (if (wrap64 ((t194.length : Int) - 1)) ≤ (t194.length : Int) then ((cert_Chain.f k a0 l1 (t194.take ((wrap64 ((t194.length : Int) - 1)) : Int).toNat)).bind fun t232 => (some (!t232))) else (none)) else (none)))) else (none))) else (none))) else (some false))) else (some false))) else (some false))) else (none)))) else (none))) else (none)) else (none)))) = some r := H
    have A7 := Aside0.mk A70
    clear A70
    by_cases c8 : (t194.length : Int) = 0
    · rw [if_pos c8] at H
      have c8b0 : ((t194.length : Int) == 0) = true := beq_iff_eq.mpr c8
      have c8b1 : ((t194.length : Int) != 0) = false := bne_eq_false_iff_eq.mpr c8
      clear c8
      replace H := Option.bind_eq_some_iff.mp H
      obtain ⟨t197, A90, H⟩ := H
      replace H : (some t197) = some r := H
      have A9 := Aside0.mk A90
      clear A90
      obtain rfl := Option.some.inj H
      go_enter Try.func13, Try.ntmps13
      go_wp2_with (first | ((with_reducible refine gate_callee (f := 32) rfl ?_); refine goesL_ (some 16) rfl rfl Try.func32 (by kernel_rfl) rfl #[.int .i64 a0, .slice A1 l1.length c1] rfl (by (try simp only [List.map_toArray, List.map_cons, List.map_nil]); first | done | rfl | (simp only [List.length_drop, List.length_take]; rfl)) ?_; (with_reducible refine (loop_Of.calls k a0 _ _ l1 t194 _ ?side1 ?side2 A7.out).mono ?_); (case side1 => repeat (first | exact HR1.out | (with_reducible refine Kd.C_alloc ?_ _) | (with_reducible refine Kd.C_drewN ?_ _) | (with_reducible refine Kd.C_drew ?_))); (case side2 => exact HC1.out); rintro e w10 ⟨v195, rfl, ho0, hb⟩; refine ⟨_, rfl, ?_⟩; have n0_ := Aside0.mk (Kd.R_lower ho0 (below_size (by repeat (first | (with_reducible first | exact HB.out | apply below_alloc | apply pw_below_drewN | apply below_drew1) | exact HB.out)))); have n1_ := Aside0.mk (below_step (by repeat (first | (with_reducible first | exact HB.out | apply below_alloc | apply pw_below_drewN | apply below_drew1) | exact HB.out)) hb); clear HB; have HO196 := n0_; have HB := n1_; clear n0_ n1_; (try clear hb); (try clear hb2); (try clear hk); (try clear hi); (try clear ho0); obtain ⟨Ao11, co11, eo11⟩ := Kd.R_slice HO196.out; subst eo11) | ((with_reducible refine gate_callee (f := 15) rfl ?_); refine goesL_ (some 20) rfl rfl Try.func15 (by kernel_rfl) rfl #[] rfl (by (try simp only [List.map_toArray, List.map_cons, List.map_nil]); first | done | rfl | (simp only [List.length_drop, List.length_take]; rfl)) ?_; (with_reducible refine (merkhetlaw17_fixed.calls k  t197 _ A9.out).mono ?_); rintro e w12 ⟨rfl, hb⟩; refine ⟨_, rfl, ?_⟩; have n0_ := Aside0.mk (Kd.R_below (by (with_reducible repeat (first | apply Kd.R_alloc | apply Kd.R_drewN | apply Kd.R_drew)); exact HO196.out) hb); have n1_ := Aside0.mk (below_step (by repeat (first | (with_reducible first | exact HB.out | apply below_alloc | apply pw_below_drewN | apply below_drew1) | exact HB.out)) hb); clear HO196; clear HB; have HO196 := n0_; have HB := n1_; clear n0_ n1_; (try clear hb); (try clear hb2); (try clear hk); (try clear hi)))
      go_ret
      exact ⟨by first | rfl | (simp [errW_none, errW_some] <;> rfl) | (simp [*, errW_none, errW_some] <;> rfl), by repeat (first | (with_reducible first | exact HB.out | apply below_alloc | apply pw_below_drewN | apply below_drew1) | exact HB.out)⟩
    · rw [if_neg c8] at H
      have c8b0 : ((t194.length : Int) == 0) = false := beq_eq_false_iff_ne.mpr c8
      have c8b1 : ((t194.length : Int) != 0) = true := bne_iff_ne.mpr c8
      have c8b2 : ¬ (t194 = []) := fun h_ => c8 (by rw [h_]; rfl)
      obtain ⟨y198, hy198⟩ : ∃ y_ : List (S48), y_ = (([] : List (S48))) := ⟨_, rfl⟩
      replace H : (if 0 ≤ (Int.tmod (wrap64 (a2)) (t194.length : Int)) then (if (Int.tmod (wrap64 (a2)) (t194.length : Int)) ≤ (t194.length : Int) then ((some (t194.drop ((Int.tmod (wrap64 (a2)) (t194.length : Int)) : Int).toNat : List (S48))).bind fun y201 => (if y198.length + y201.length < 2932031007402 then ((some (y198 ++ y201 : List (S48))).bind fun y205 => ((some (t194.take ((Int.tmod (wrap64 (a2)) (t194.length : Int)) : Int).toNat : List (S48))).bind fun y208 => (if y205.length + y208.length < 2932031007402 then ((merkhetlaw17_fixed.f k).bind fun t215 => (if t215 = true then ((cert_Chain.f k a0 l1 t194).bind fun t216 => (if t216 = true then ((cert_Chain.f k a0 l1 (y205 ++ y208)).bind fun t217 => (if t217 = true then ((some (([] : List (S48)) : List (S48))).bind fun y218 => (if y218.length + t194.length < 2932031007402 then ((some (y218 ++ t194 : List (S48))).bind fun y221 => (if y221.length + t194.length < 2932031007402 then ((cert_Chain.f k a0 l1 (y221 ++ t194)).bind fun t227 => (if t227 = true then (some false) else (if 0 ≤ (wrap64 ((t194.length : Int) - 1)) then (if (wrap64 ((t194.length : Int) - 1)) ≤ (t194.length : Int) then ((cert_Chain.f k a0 l1 (t194.take ((wrap64 ((t194.length : Int) - 1)) : Int).toNat)).bind fun t232 => (some (!t232))) else (none)) else (none)))) else (none))) else (none))) else (some false))) else (some false))) else (some false))) else (none)))) else (none))) else (none)) else (none)) = some r := by first | (rw [hy198]; with_reducible exact H) | (have H2_ := (Option.bind_some _ _).symm.trans H; rw [hy198]; with_reducible exact H2_) | (have H2_ := (Option.bind_some _ _).symm.trans H; with_reducible exact H2_) | with_reducible exact H | (rw [hy198]; exact H) | exact H
      have Ny198 := Aside0.mk hy198
      clear hy198
      obtain ⟨ji13, hji13⟩ : ∃ j_ : Int, (Int.tmod (wrap64 (a2)) (t194.length : Int)) = j_ := ⟨_, rfl⟩
      replace H : (if 0 ≤ (ji13) then (if (ji13) ≤ (t194.length : Int) then ((some (t194.drop ((ji13) : Int).toNat : List (S48))).bind fun y201 => (if y198.length + y201.length < 2932031007402 then ((some (y198 ++ y201 : List (S48))).bind fun y205 => ((some (t194.take ((ji13) : Int).toNat : List (S48))).bind fun y208 => (if y205.length + y208.length < 2932031007402 then ((merkhetlaw17_fixed.f k).bind fun t215 => (if t215 = true then ((cert_Chain.f k a0 l1 t194).bind fun t216 => (if t216 = true then ((cert_Chain.f k a0 l1 (y205 ++ y208)).bind fun t217 => (if t217 = true then ((some (([] : List (S48)) : List (S48))).bind fun y218 => (if y218.length + t194.length < 2932031007402 then ((some (y218 ++ t194 : List (S48))).bind fun y221 => (if y221.length + t194.length < 2932031007402 then ((cert_Chain.f k a0 l1 (y221 ++ t194)).bind fun t227 => (if t227 = true then (some false) else (if 0 ≤ (wrap64 ((t194.length : Int) - 1)) then (if (wrap64 ((t194.length : Int) - 1)) ≤ (t194.length : Int) then ((cert_Chain.f k a0 l1 (t194.take ((wrap64 ((t194.length : Int) - 1)) : Int).toNat)).bind fun t232 => (some (!t232))) else (none)) else (none)))) else (none))) else (none))) else (some false))) else (some false))) else (some false))) else (none)))) else (none))) else (none)) else (none)) = some r := by first | (rw [hji13] at H; exact H) | (simp only [hji13] at H ⊢; exact H)
      (try rw [hji13] at A7)
      by_cases c14 : 0 ≤ (ji13)
      · rw [if_pos c14] at H
        have c14b0 := eq_true c14
        have c14b1 : decide (0 ≤ (ji13)) = true := decide_eq_true c14
        clear c14
        by_cases c15 : (ji13) ≤ (t194.length : Int)
        · rw [if_pos c15] at H
          have c15b0 := eq_true c15
          have c15b1 : decide ((ji13) ≤ (t194.length : Int)) = true := decide_eq_true c15
          clear c15
          obtain ⟨y201, hy201⟩ : ∃ y_ : List (S48), y_ = (t194.drop ((ji13) : Int).toNat) := ⟨_, rfl⟩
          replace H : (if y198.length + y201.length < 2932031007402 then ((some (y198 ++ y201 : List (S48))).bind fun y205 => ((some (t194.take ((ji13) : Int).toNat : List (S48))).bind fun y208 => (if y205.length + y208.length < 2932031007402 then ((merkhetlaw17_fixed.f k).bind fun t215 => (if t215 = true then ((cert_Chain.f k a0 l1 t194).bind fun t216 => (if t216 = true then ((cert_Chain.f k a0 l1 (y205 ++ y208)).bind fun t217 => (if t217 = true then ((some (([] : List (S48)) : List (S48))).bind fun y218 => (if y218.length + t194.length < 2932031007402 then ((some (y218 ++ t194 : List (S48))).bind fun y221 => (if y221.length + t194.length < 2932031007402 then ((cert_Chain.f k a0 l1 (y221 ++ t194)).bind fun t227 => (if t227 = true then (some false) else (if 0 ≤ (wrap64 ((t194.length : Int) - 1)) then (if (wrap64 ((t194.length : Int) - 1)) ≤ (t194.length : Int) then ((cert_Chain.f k a0 l1 (t194.take ((wrap64 ((t194.length : Int) - 1)) : Int).toNat)).bind fun t232 => (some (!t232))) else (none)) else (none)))) else (none))) else (none))) else (some false))) else (some false))) else (some false))) else (none)))) else (none)) = some r := by first | (rw [hy201]; with_reducible exact H) | (have H2_ := (Option.bind_some _ _).symm.trans H; rw [hy201]; with_reducible exact H2_) | (have H2_ := (Option.bind_some _ _).symm.trans H; with_reducible exact H2_) | with_reducible exact H | (rw [hy201]; exact H) | exact H
          have Ny201 := Aside0.mk hy201
          clear hy201
          by_cases c16 : y198.length + y201.length < 2932031007402
          · rw [if_pos c16] at H
            have LMc16 := Aside0.mk c16
            clear c16
            obtain ⟨y205, hy205⟩ : ∃ y_ : List (S48), y_ = (y198 ++ y201) := ⟨_, rfl⟩
            replace H : ((some (t194.take ((ji13) : Int).toNat : List (S48))).bind fun y208 => (if y205.length + y208.length < 2932031007402 then ((merkhetlaw17_fixed.f k).bind fun t215 => (if t215 = true then ((cert_Chain.f k a0 l1 t194).bind fun t216 => (if t216 = true then ((cert_Chain.f k a0 l1 (y205 ++ y208)).bind fun t217 => (if t217 = true then ((some (([] : List (S48)) : List (S48))).bind fun y218 => (if y218.length + t194.length < 2932031007402 then ((some (y218 ++ t194 : List (S48))).bind fun y221 => (if y221.length + t194.length < 2932031007402 then ((cert_Chain.f k a0 l1 (y221 ++ t194)).bind fun t227 => (if t227 = true then (some false) else (if 0 ≤ (wrap64 ((t194.length : Int) - 1)) then (if (wrap64 ((t194.length : Int) - 1)) ≤ (t194.length : Int) then ((cert_Chain.f k a0 l1 (t194.take ((wrap64 ((t194.length : Int) - 1)) : Int).toNat)).bind fun t232 => (some (!t232))) else (none)) else (none)))) else (none))) else (none))) else (some false))) else (some false))) else (some false))) else (none))) = some r := by first | (rw [hy205]; with_reducible exact H) | (have H2_ := (Option.bind_some _ _).symm.trans H; rw [hy205]; with_reducible exact H2_) | (have H2_ := (Option.bind_some _ _).symm.trans H; with_reducible exact H2_) | with_reducible exact H | (rw [hy205]; exact H) | exact H
            have Ny205 := Aside0.mk hy205
            clear hy205
            have c17b0 := eq_true (of_decide_eq_true (by first | (with_reducible assumption) | assumption) : 0 ≤ (ji13))
            have c18b0 := eq_true (of_decide_eq_true (by first | (with_reducible assumption) | assumption) : (ji13) ≤ (t194.length : Int))
            obtain ⟨y208, hy208⟩ : ∃ y_ : List (S48), y_ = (t194.take ((ji13) : Int).toNat) := ⟨_, rfl⟩
            replace H : (if y205.length + y208.length < 2932031007402 then ((merkhetlaw17_fixed.f k).bind fun t215 => (if t215 = true then ((cert_Chain.f k a0 l1 t194).bind fun t216 => (if t216 = true then ((cert_Chain.f k a0 l1 (y205 ++ y208)).bind fun t217 => (if t217 = true then ((some (([] : List (S48)) : List (S48))).bind fun y218 => (if y218.length + t194.length < 2932031007402 then ((some (y218 ++ t194 : List (S48))).bind fun y221 => (if y221.length + t194.length < 2932031007402 then ((cert_Chain.f k a0 l1 (y221 ++ t194)).bind fun t227 => (if t227 = true then (some false) else (if 0 ≤ (wrap64 ((t194.length : Int) - 1)) then (if (wrap64 ((t194.length : Int) - 1)) ≤ (t194.length : Int) then ((cert_Chain.f k a0 l1 (t194.take ((wrap64 ((t194.length : Int) - 1)) : Int).toNat)).bind fun t232 => (some (!t232))) else (none)) else (none)))) else (none))) else (none))) else (some false))) else (some false))) else (some false))) else (none)) = some r := by first | (rw [hy208]; with_reducible exact H) | (have H2_ := (Option.bind_some _ _).symm.trans H; rw [hy208]; with_reducible exact H2_) | (have H2_ := (Option.bind_some _ _).symm.trans H; with_reducible exact H2_) | with_reducible exact H | (rw [hy208]; exact H) | exact H
            have Ny208 := Aside0.mk hy208
            clear hy208
            by_cases c19 : y205.length + y208.length < 2932031007402
            · rw [if_pos c19] at H
              have LMc19 := Aside0.mk c19
              clear c19
              obtain ⟨y212, hy212⟩ : ∃ y_ : List (S48), y_ = (y205 ++ y208) := ⟨_, rfl⟩
              replace H : ((merkhetlaw17_fixed.f k).bind fun t215 => (if t215 = true then ((cert_Chain.f k a0 l1 t194).bind fun t216 => (if t216 = true then ((cert_Chain.f k a0 l1 y212).bind fun t217 => (if t217 = true then ((some (([] : List (S48)) : List (S48))).bind fun y218 => (if y218.length + t194.length < 2932031007402 then ((some (y218 ++ t194 : List (S48))).bind fun y221 => (if y221.length + t194.length < 2932031007402 then ((cert_Chain.f k a0 l1 (y221 ++ t194)).bind fun t227 => (if t227 = true then (some false) else (if 0 ≤ (wrap64 ((t194.length : Int) - 1)) then (if (wrap64 ((t194.length : Int) - 1)) ≤ (t194.length : Int) then ((cert_Chain.f k a0 l1 (t194.take ((wrap64 ((t194.length : Int) - 1)) : Int).toNat)).bind fun t232 => (some (!t232))) else (none)) else (none)))) else (none))) else (none))) else (some false))) else (some false))) else (some false))) = some r := by first | (rw [hy212]; with_reducible exact H) | (have H2_ := (Option.bind_some _ _).symm.trans H; rw [hy212]; with_reducible exact H2_) | (have H2_ := (Option.bind_some _ _).symm.trans H; with_reducible exact H2_) | with_reducible exact H | (rw [hy212]; exact H) | exact H
              have Ny212 := Aside0.mk hy212
              clear hy212
              replace H := Option.bind_eq_some_iff.mp H
              obtain ⟨t215, A200, H⟩ := H
              replace H : (if t215 = true then ((cert_Chain.f k a0 l1 t194).bind fun t216 => (if t216 = true then ((cert_Chain.f k a0 l1 y212).bind fun t217 => (if t217 = true then ((some (([] : List (S48)) : List (S48))).bind fun y218 => (if y218.length + t194.length < 2932031007402 then ((some (y218 ++ t194 : List (S48))).bind fun y221 => (if y221.length + t194.length < 2932031007402 then ((cert_Chain.f k a0 l1 (y221 ++ t194)).bind fun t227 => (if t227 = true then (some false) else (if 0 ≤ (wrap64 ((t194.length : Int) - 1)) then (if (wrap64 ((t194.length : Int) - 1)) ≤ (t194.length : Int) then ((cert_Chain.f k a0 l1 (t194.take ((wrap64 ((t194.length : Int) - 1)) : Int).toNat)).bind fun t232 => (some (!t232))) else (none)) else (none)))) else (none))) else (none))) else (some false))) else (some false))) else (some false)) = some r := H
              have A20 := Aside0.mk A200
              clear A200
              by_cases c21 : t215 = true
              · subst c21
                have H1 : ((cert_Chain.f k a0 l1 t194).bind fun t216 => (if t216 = true then ((cert_Chain.f k a0 l1 y212).bind fun t217 => (if t217 = true then ((some (([] : List (S48)) : List (S48))).bind fun y218 => (if y218.length + t194.length < 2932031007402 then ((some (y218 ++ t194 : List (S48))).bind fun y221 => (if y221.length + t194.length < 2932031007402 then ((cert_Chain.f k a0 l1 (y221 ++ t194)).bind fun t227 => (if t227 = true then (some false) else (if 0 ≤ (wrap64 ((t194.length : Int) - 1)) then (if (wrap64 ((t194.length : Int) - 1)) ≤ (t194.length : Int) then ((cert_Chain.f k a0 l1 (t194.take ((wrap64 ((t194.length : Int) - 1)) : Int).toNat)).bind fun t232 => (some (!t232))) else (none)) else (none)))) else (none))) else (none))) else (some false))) else (some false))) = some r := by rw [if_pos rfl] at H; exact H
                clear H
                have H := H1
                clear H1
                replace H := Option.bind_eq_some_iff.mp H
                obtain ⟨t216, A220, H⟩ := H
                replace H : (if t216 = true then ((cert_Chain.f k a0 l1 y212).bind fun t217 => (if t217 = true then ((some (([] : List (S48)) : List (S48))).bind fun y218 => (if y218.length + t194.length < 2932031007402 then ((some (y218 ++ t194 : List (S48))).bind fun y221 => (if y221.length + t194.length < 2932031007402 then ((cert_Chain.f k a0 l1 (y221 ++ t194)).bind fun t227 => (if t227 = true then (some false) else (if 0 ≤ (wrap64 ((t194.length : Int) - 1)) then (if (wrap64 ((t194.length : Int) - 1)) ≤ (t194.length : Int) then ((cert_Chain.f k a0 l1 (t194.take ((wrap64 ((t194.length : Int) - 1)) : Int).toNat)).bind fun t232 => (some (!t232))) else (none)) else (none)))) else (none))) else (none))) else (some false))) else (some false)) = some r := H
                have A22 := Aside0.mk A220
                clear A220
                by_cases c23 : t216 = true
                · subst c23
                  have H1 : ((cert_Chain.f k a0 l1 y212).bind fun t217 => (if t217 = true then ((some (([] : List (S48)) : List (S48))).bind fun y218 => (if y218.length + t194.length < 2932031007402 then ((some (y218 ++ t194 : List (S48))).bind fun y221 => (if y221.length + t194.length < 2932031007402 then ((cert_Chain.f k a0 l1 (y221 ++ t194)).bind fun t227 => (if t227 = true then (some false) else (if 0 ≤ (wrap64 ((t194.length : Int) - 1)) then (if (wrap64 ((t194.length : Int) - 1)) ≤ (t194.length : Int) then ((cert_Chain.f k a0 l1 (t194.take ((wrap64 ((t194.length : Int) - 1)) : Int).toNat)).bind fun t232 => (some (!t232))) else (none)) else (none)))) else (none))) else (none))) else (some false))) = some r := by rw [if_pos rfl] at H; exact H
                  clear H
                  have H := H1
                  clear H1
                  replace H := Option.bind_eq_some_iff.mp H
                  obtain ⟨t217, A240, H⟩ := H
                  replace H : (if t217 = true then ((some (([] : List (S48)) : List (S48))).bind fun y218 => (if y218.length + t194.length < 2932031007402 then ((some (y218 ++ t194 : List (S48))).bind fun y221 => (if y221.length + t194.length < 2932031007402 then ((cert_Chain.f k a0 l1 (y221 ++ t194)).bind fun t227 => (if t227 = true then (some false) else (if 0 ≤ (wrap64 ((t194.length : Int) - 1)) then (if (wrap64 ((t194.length : Int) - 1)) ≤ (t194.length : Int) then ((cert_Chain.f k a0 l1 (t194.take ((wrap64 ((t194.length : Int) - 1)) : Int).toNat)).bind fun t232 => (some (!t232))) else (none)) else (none)))) else (none))) else (none))) else (some false)) = some r := H
                  have A24 := Aside0.mk A240
                  clear A240
                  by_cases c25 : t217 = true
                  · subst c25
                    have H1 : ((some (([] : List (S48)) : List (S48))).bind fun y218 => (if y218.length + t194.length < 2932031007402 then ((some (y218 ++ t194 : List (S48))).bind fun y221 => (if y221.length + t194.length < 2932031007402 then ((cert_Chain.f k a0 l1 (y221 ++ t194)).bind fun t227 => (if t227 = true then (some false) else (if 0 ≤ (wrap64 ((t194.length : Int) - 1)) then (if (wrap64 ((t194.length : Int) - 1)) ≤ (t194.length : Int) then ((cert_Chain.f k a0 l1 (t194.take ((wrap64 ((t194.length : Int) - 1)) : Int).toNat)).bind fun t232 => (some (!t232))) else (none)) else (none)))) else (none))) else (none))) = some r := by rw [if_pos rfl] at H; exact H
                    clear H
                    have H := H1
                    clear H1
                    obtain ⟨y218, hy218⟩ : ∃ y_ : List (S48), y_ = (([] : List (S48))) := ⟨_, rfl⟩
                    replace H : (if y218.length + t194.length < 2932031007402 then ((some (y218 ++ t194 : List (S48))).bind fun y221 => (if y221.length + t194.length < 2932031007402 then ((cert_Chain.f k a0 l1 (y221 ++ t194)).bind fun t227 => (if t227 = true then (some false) else (if 0 ≤ (wrap64 ((t194.length : Int) - 1)) then (if (wrap64 ((t194.length : Int) - 1)) ≤ (t194.length : Int) then ((cert_Chain.f k a0 l1 (t194.take ((wrap64 ((t194.length : Int) - 1)) : Int).toNat)).bind fun t232 => (some (!t232))) else (none)) else (none)))) else (none))) else (none)) = some r := by first | (rw [hy218]; with_reducible exact H) | (have H2_ := (Option.bind_some _ _).symm.trans H; rw [hy218]; with_reducible exact H2_) | (have H2_ := (Option.bind_some _ _).symm.trans H; with_reducible exact H2_) | with_reducible exact H | (rw [hy218]; exact H) | exact H
                    have Ny218 := Aside0.mk hy218
                    clear hy218
                    by_cases c26 : y218.length + t194.length < 2932031007402
                    · rw [if_pos c26] at H
                      have LMc26 := Aside0.mk c26
                      clear c26
                      obtain ⟨y221, hy221⟩ : ∃ y_ : List (S48), y_ = (y218 ++ t194) := ⟨_, rfl⟩
                      replace H : (if y221.length + t194.length < 2932031007402 then ((cert_Chain.f k a0 l1 (y221 ++ t194)).bind fun t227 => (if t227 = true then (some false) else (if 0 ≤ (wrap64 ((t194.length : Int) - 1)) then (if (wrap64 ((t194.length : Int) - 1)) ≤ (t194.length : Int) then ((cert_Chain.f k a0 l1 (t194.take ((wrap64 ((t194.length : Int) - 1)) : Int).toNat)).bind fun t232 => (some (!t232))) else (none)) else (none)))) else (none)) = some r := by first | (rw [hy221]; with_reducible exact H) | (have H2_ := (Option.bind_some _ _).symm.trans H; rw [hy221]; with_reducible exact H2_) | (have H2_ := (Option.bind_some _ _).symm.trans H; with_reducible exact H2_) | with_reducible exact H | (rw [hy221]; exact H) | exact H
                      have Ny221 := Aside0.mk hy221
                      clear hy221
                      by_cases c27 : y221.length + t194.length < 2932031007402
                      · rw [if_pos c27] at H
                        have LMc27 := Aside0.mk c27
                        clear c27
                        obtain ⟨y224, hy224⟩ : ∃ y_ : List (S48), y_ = (y221 ++ t194) := ⟨_, rfl⟩
                        replace H : ((cert_Chain.f k a0 l1 y224).bind fun t227 => (if t227 = true then (some false) else (if 0 ≤ (wrap64 ((t194.length : Int) - 1)) then (if (wrap64 ((t194.length : Int) - 1)) ≤ (t194.length : Int) then ((cert_Chain.f k a0 l1 (t194.take ((wrap64 ((t194.length : Int) - 1)) : Int).toNat)).bind fun t232 => (some (!t232))) else (none)) else (none)))) = some r := by first | (rw [hy224]; with_reducible exact H) | (have H2_ := (Option.bind_some _ _).symm.trans H; rw [hy224]; with_reducible exact H2_) | (have H2_ := (Option.bind_some _ _).symm.trans H; with_reducible exact H2_) | with_reducible exact H | (rw [hy224]; exact H) | exact H
                        have Ny224 := Aside0.mk hy224
                        clear hy224
                        replace H := Option.bind_eq_some_iff.mp H
                        obtain ⟨t227, A280, H⟩ := H
                        replace H : (if t227 = true then (some false) else (if 0 ≤ (wrap64 ((t194.length : Int) - 1)) then (if (wrap64 ((t194.length : Int) - 1)) ≤ (t194.length : Int) then ((cert_Chain.f k a0 l1 (t194.take ((wrap64 ((t194.length : Int) - 1)) : Int).toNat)).bind fun t232 => (some (!t232))) else (none)) else (none))) = some r := H
                        have A28 := Aside0.mk A280
                        clear A280
                        by_cases c29 : t227 = true
                        · subst c29
                          have H1 : (some false) = some r := by rw [if_pos rfl] at H; exact H
                          clear H
                          have H := H1
                          clear H1
                          obtain rfl := Option.some.inj H
                          go_enter Try.func13, Try.ntmps13
                          try go_wp2_with (first | ((with_reducible refine gate_callee (f := 32) rfl ?_); refine goesL_ (some 16) rfl rfl Try.func32 (by kernel_rfl) rfl #[.int .i64 a0, .slice A1 l1.length c1] rfl (by (try simp only [List.map_toArray, List.map_cons, List.map_nil]); first | done | rfl | (simp only [List.length_drop, List.length_take]; rfl)) ?_; (with_reducible refine (loop_Of.calls k a0 _ _ l1 t194 _ ?side1 ?side2 A7.out).mono ?_); (case side1 => repeat (first | exact HR1.out | (with_reducible refine Kd.C_alloc ?_ _) | (with_reducible refine Kd.C_drewN ?_ _) | (with_reducible refine Kd.C_drew ?_))); (case side2 => exact HC1.out); rintro e w30 ⟨v195, rfl, ho0, hb⟩; refine ⟨_, rfl, ?_⟩; have n0_ := Aside0.mk (Kd.R_lower ho0 (below_size (by repeat (first | (with_reducible first | exact HB.out | apply below_alloc | apply pw_below_drewN | apply below_drew1) | exact HB.out)))); have n1_ := Aside0.mk (below_step (by repeat (first | (with_reducible first | exact HB.out | apply below_alloc | apply pw_below_drewN | apply below_drew1) | exact HB.out)) hb); clear HB; have HO196 := n0_; have HB := n1_; clear n0_ n1_; (try clear hb); (try clear hb2); (try clear hk); (try clear hi); (try clear ho0); obtain ⟨Ao31, co31, eo31⟩ := Kd.R_slice HO196.out; subst eo31))
                          (try (rw [drewN_self w30]; generalize hq_ : World.drewN w30 _ = w30; have n0_ : Aside0 (Kd.R k48 48 w30 w.heap.size (fun _ => True) (.slice Ao31 t194.length co31) t194) := ⟨by rw [← hq_]; exact (by (with_reducible repeat (first | apply Kd.R_alloc | apply Kd.R_drewN | apply Kd.R_drew)); exact HO196.out)⟩; have n1_ : Aside0 (Below w.heap.size w w30) := ⟨by rw [← hq_]; exact (by repeat (first | (with_reducible first | exact HB.out | apply below_alloc | apply pw_below_drewN | apply below_drew1) | exact HB.out))⟩; clear HO196 HB hq_; have HO196 := n0_; have HB := n1_; clear n0_ n1_))
                          have n0_ := Aside0.mk (Kd.R_drew HO196.out)
                          have n1_ := Aside0.mk (below_drew1 HB.out)
                          clear HO196
                          clear HB
                          have HO196 := n0_
                          have HB := n1_
                          clear n0_ n1_
                          have q33 : ((ji13) : Int) ≤ ((t194.length : Int) : Int) := of_decide_eq_true (by first | (with_reducible assumption) | assumption)
                          obtain ⟨i033, hi033, _, hsz33, _⟩ := info_parts info48
                          have hroom33 : t194.length ≤ co31 := (Kd.R_reads' HO196.out).2.1
                          have hC33 : Kd.C k48 _ Ao31 t194.length t194 := (Kd.R_reads' HO196.out).2.2
                          have q033 : (0 : Int) ≤ ((ji13) : Int) := of_decide_eq_true (by first | (with_reducible assumption) | assumption)
                          have hcut33 := cut_from (P := Try.prog) 22 48 .i64 Try.underlying22 hi033 6 hsz33 Ao31 t194.length co31 (ji13) q033 q33
                          have hr33 := Kd.C_drop (m := ((ji13) : Int).toNat) (c := co31) hC33 (by omega) hroom33
                          obtain ⟨A33, hA33⟩ : ∃ A1, A1 = (if co31 = ((ji13) : Int).toNat then Ao31 else (Ao31 : Option Addr).map (·.add (((ji13) : Int).toNat * 6))) := ⟨_, rfl⟩
                          obtain ⟨c33, hc33⟩ : ∃ c1, c1 = co31 - ((ji13) : Int).toNat := ⟨_, rfl⟩
                          have hy33 : y201.length = t194.length - ((ji13) : Int).toNat := (by rw [Ny201.out, List.length_drop] <;> omega)
                          rw [show (t194).drop ((ji13) : Int).toNat = y201 from Ny201.out.symm] at hr33
                          replace hr33 : Kd.C k48 _ A33 y201.length y201 := (by rw [hA33]; exact hr33)
                          rw [← hy33, ← hA33, ← hc33] at hcut33
                          have HR204 := Aside0.mk hr33
                          have HC204 := Aside0.mk (show y201.length ≤ c33 from by rw [hy33, hc33]; exact Nat.sub_le_sub_right hroom33 _)
                          clear hr33 hC33 hroom33 hi033 hsz33 hc33
                          have KY33 := Aside0.mk hy33
                          have KA33 := Aside0.mk hA33
                          clear hy33 hA33
                          have KL33 := Aside0.mk (show ((ji13) : Int).toNat ≤ t194.length from by omega)
                          replace q33 := eq_true q33
                          have q34 : ((ji13) : Int) ≤ ((t194.length : Int) : Int) := of_decide_eq_true (by first | (with_reducible assumption) | assumption)
                          obtain ⟨i034, hi034, _, hsz34, _⟩ := info_parts info48
                          have hroom34 : t194.length ≤ co31 := (Kd.R_reads' HO196.out).2.1
                          have hC34 : Kd.C k48 _ Ao31 t194.length t194 := (Kd.R_reads' HO196.out).2.2
                          have hcut34 := cut_to (P := Try.prog) 22 48 .i64 Try.underlying22 hi034 Ao31 t194.length co31 (ji13) (of_decide_eq_true (by first | (with_reducible assumption) | assumption)) q34 hroom34
                          have hr34 := Kd.C_take (m := ((ji13) : Int).toNat) hC34 (by omega)
                          have hy34 : y208.length = ((ji13) : Int).toNat := (by rw [Ny208.out, List.length_take]; omega)
                          rw [← Ny208.out] at hr34
                          rw [← hy34] at hcut34
                          have HR211 := Aside0.mk hr34
                          have HC211 := Aside0.mk (show y208.length ≤ co31 from by omega)
                          clear hr34 hC34 hroom34 hi034 hsz34
                          have KY34 := Aside0.mk hy34
                          clear hy34
                          have KL34 := Aside0.mk (show ((ji13) : Int).toNat ≤ t194.length from by omega)
                          replace q34 := eq_true q34
                          refine start_ (n := 10) (S := fun w' => True) (ds := []) #[false, false, false, false, false, false, false, false, false, false] (by kernel_rfl) rfl rfl trivial (fun hHeld => ?_); refine with_tabW merkhetlaw17_CertTurned.tab7 merkhetlaw17_CertTurned.bits7 (fun HT_ HW_ => ?_)
                          generalize w30.drew = w32 at HO196 HB HR204 HR211 hHeld ⊢
                          refine pure_ (i := 1) (N := some 27) (v := ?_) (a' := ?_) #[false, true, false, false, false, false, false, false, false, false] rfl rfl (any_of HT_.out (by kernel_rfl)) (fun _ _ _ h => h) (Or.inl ⟨by rfl, ?_⟩) ?_ ?_
                          rotate_left
                          · intro w'
                            go_simp
                            with_reducible rfl
                          rotate_left
                          · simp only [Act.put, List.setIfInBounds_toArray, List.set_cons_zero, List.set_cons_succ, i64_w, i32_w]
                            rfl
                          refine pure_ (i := 2) (N := some 28) (v := ?_) (a' := ?_) #[false, true, true, false, false, false, false, false, false, false] rfl rfl (any_of HT_.out (by kernel_rfl)) (fun _ _ _ h => h) (Or.inl ⟨by rfl, ?_⟩) ?_ ?_
                          rotate_left
                          · intro w'
                            go_simp
                            with_reducible rfl
                          rotate_left
                          · simp only [Act.put, List.setIfInBounds_toArray, List.set_cons_zero, List.set_cons_succ, i64_w, i32_w]
                            rfl
                          refine pure_ (i := 3) (N := some 29) (v := ?_) (a' := ?_) #[false, true, true, true, false, false, false, false, false, false] rfl rfl (any_of HT_.out (by kernel_rfl)) (fun _ _ _ h => h) (Or.inl ⟨by rfl, ?_⟩) ?_ ?_
                          rotate_left
                          · intro w'
                            go_simp
                            with_reducible rfl
                          rotate_left
                          · simp only [Act.put, List.setIfInBounds_toArray, List.set_cons_zero, List.set_cons_succ, i64_w, i32_w]
                            rfl
                          refine pure_ (i := 5) (N := some 31) (v := ?_) (a' := ?_) #[false, true, true, true, false, true, false, false, false, false] rfl rfl (any_of HT_.out (by kernel_rfl)) (fun _ _ _ h => h) (Or.inl ⟨by rfl, ?_⟩) ?_ ?_
                          rotate_left
                          · intro w'
                            go_simp
                            with_reducible rfl
                          rotate_left
                          · simp only [Act.put, List.setIfInBounds_toArray, List.set_cons_zero, List.set_cons_succ, i64_w, i32_w]
                            rfl
                          refine pure_ (i := 6) (N := some 32) (v := ?_) (a' := ?_) #[false, true, true, true, false, true, true, false, false, false] rfl rfl (any_of HT_.out (by kernel_rfl)) (fun _ _ _ h => h) (Or.inl ⟨by rfl, ?_⟩) ?_ ?_
                          rotate_left
                          · intro w'
                            go_simp
                            with_reducible rfl
                          rotate_left
                          · simp only [Act.put, List.setIfInBounds_toArray, List.set_cons_zero, List.set_cons_succ, i64_w, i32_w]
                            rfl
                          refine pure_ (i := 7) (N := some 33) (v := ?_) (a' := ?_) #[false, true, true, true, false, true, true, true, false, false] rfl rfl (any_of HT_.out (by kernel_rfl)) (fun _ _ _ h => h) (Or.inl ⟨by rfl, ?_⟩) ?_ ?_
                          rotate_left
                          · intro w'
                            go_simp
                            with_reducible rfl
                          rotate_left
                          · simp only [Act.put, List.setIfInBounds_toArray, List.set_cons_zero, List.set_cons_succ, i64_w, i32_w]
                            rfl
                          refine one_ (i := 0) (N := some 26) #[true, true, true, true, false, true, true, true, false, false] rfl rfl (one_of HT_.out (by kernel_rfl)) (by decide) (fun K hK => ?_)
                          refine Kd.R_lit_step k48 _ 48 ?hg (N := 26) ?hd (xs := ([] : List (S48))) (inner := []) (ok := fun _ => True) (okp := fun _ => True) ?hr ?hp (fun _ hk => hk) trivial (Below.refl _ _) (Nat.le_refl _) (by simp) ?_; (case hd => rfl); (case hg => rfl); (case hr => first | (go_simp; done) | (go_simp; rfl)); (case hp => exact (Reps.none _ _))
                          intro v199 w35 ho36 hb hg_ hnew_
                          clear hg_ hnew_
                          (first | rw [← Ny198.out] at ho36 | (simp only [Int.reduceToNat] at ho36; rw [← Ny198.out] at ho36))
                          have n0_ := Aside0.mk (Kd.R_elder' (by (with_reducible repeat (first | apply Kd.R_alloc | apply Kd.R_drewN | apply Kd.R_drew)); exact HO196.out) (Kd.R_base ho36) hb)
                          have n1_ := Aside0.mk (Kd.R_lower (Kd.R_new' ho36 (Kd.R_lt (by (with_reducible repeat (first | apply Kd.R_alloc | apply Kd.R_drewN | apply Kd.R_drew)); exact HO196.out))) (below_size (by repeat (first | (with_reducible first | exact HB.out | apply below_alloc | apply pw_below_drewN | apply below_drew1) | exact HB.out))))
                          have n2_ := Aside0.mk (Kd.C_below (by repeat (first | (with_reducible exact HR204.out) | (with_reducible refine Kd.C_alloc ?_ _) | (with_reducible refine Kd.C_drewN ?_ _) | (with_reducible refine Kd.C_drew ?_) | exact HR204.out)) hb)
                          have n3_ := Aside0.mk (Kd.C_below (by repeat (first | (with_reducible exact HR211.out) | (with_reducible refine Kd.C_alloc ?_ _) | (with_reducible refine Kd.C_drewN ?_ _) | (with_reducible refine Kd.C_drew ?_) | exact HR211.out)) hb)
                          have n4_ := Aside0.mk (below_step (by repeat (first | (with_reducible first | exact HB.out | apply below_alloc | apply pw_below_drewN | apply below_drew1) | exact HB.out)) hb)
                          clear HO196
                          clear HR204
                          clear HR211
                          clear HB
                          have HO196 := n0_
                          have HO200 := n1_
                          have HR204 := n2_
                          have HR211 := n3_
                          have HB := n4_
                          clear n0_ n1_ n2_ n3_ n4_
                          clear hb ho36
                          refine hK.out _ _ trivial (fun hHeld => ?_)
                          clear hK K
                          refine norm_ (a' := ?_) ?_ ?_
                          rotate_left
                          · show Act.put _ (some 26) _ = _
                            simp only [Act.put, List.setIfInBounds_toArray, List.set_cons_zero, List.set_cons_succ, i64_w, i32_w]
                            rfl
                          refine one_ (i := 4) (N := some 30) #[true, true, true, true, true, true, true, true, false, false] rfl rfl (one_of HT_.out (by kernel_rfl)) (by decide) (fun K hK => ?_)
                          refine Kd.R_append_rows_step k48 (w0 := w) w.heap.size (by rfl) (.tmp 26) (.tmp 29) 22 48 (.agg #[(.int .i64 0), (.int .i64 0), (.int .i64 0), (.int .i64 0), (.int .i64 0), (.bool false)]) 48 rfl Try.underlying22 info48 rfl (by decide) (by omega) v199 y198 y201 _ _ _ (fun k_ => some k_ ≠ (.slice Ao31 t194.length co31 : Value).ownBlock) (fun _ => False) rfl rfl ?aO ?aR (fun _ _ h => h) (fun _ h => h.elim) ?aF ?aB ?aS ?aL ?_
                          (case aR => repeat (first | exact (by repeat (first | (with_reducible exact HR204.out) | (with_reducible refine Kd.C_alloc ?_ _) | (with_reducible refine Kd.C_drewN ?_ _) | (with_reducible refine Kd.C_drew ?_) | exact HR204.out)) | (with_reducible refine Kd.C_alloc ?_ _) | (with_reducible refine Kd.C_drewN ?_ _) | (with_reducible refine Kd.C_drew ?_)))
                          (case aB => exact (by repeat (first | (with_reducible first | exact HB.out | apply below_alloc | apply pw_below_drewN | apply below_drew1) | exact HB.out)))
                          (case aF => exact (fun k_ hk => Kd.fresh' (Kd.R_lt (by (with_reducible repeat (first | apply Kd.R_alloc | apply Kd.R_drewN | apply Kd.R_drew)); exact HO196.out)) k_ hk))
                          (case aO => exact (by (with_reducible repeat (first | apply Kd.R_alloc | apply Kd.R_drewN | apply Kd.R_drew)); exact Kd.R_mono HO200.out (fun _ hk => hk.2)))
                          (case aS => exact (below_size (by repeat (first | (with_reducible first | exact HB.out | apply below_alloc | apply pw_below_drewN | apply below_drew1) | exact HB.out))))
                          (case aL => have := LMc16.out; omega)
                          intro v206 w37 ho hb hg hat
                          rw [← Ny205.out] at ho
                          have n0_ := Aside0.mk (Kd.R_after (ok := (fun _ => True)) (by (with_reducible repeat (first | apply Kd.R_alloc | apply Kd.R_drewN | apply Kd.R_drew)); exact HO196.out) hg hat)
                          have n1_ := Aside0.mk (hb)
                          have n2_ := Aside0.mk ((show Kd.C k48 w37 A33 y201.length y201 from by rw [Ny201.out, KA33.out]; exact Kd.C_drop (m := ((ji13) : Int).toNat) (c := co31) ((Kd.R_reads' (Kd.R_after (ok := (fun _ => True)) (by (with_reducible repeat (first | apply Kd.R_alloc | apply Kd.R_drewN | apply Kd.R_drew)); exact HO196.out) hg hat)).2.2) KL33.out ((Kd.R_reads' (Kd.R_after (ok := (fun _ => True)) (by (with_reducible repeat (first | apply Kd.R_alloc | apply Kd.R_drewN | apply Kd.R_drew)); exact HO196.out) hg hat)).2.1)))
                          have n3_ := Aside0.mk ((show Kd.C k48 w37 Ao31 y208.length y208 from by rw [Ny208.out]; exact Kd.C_take (m := ((ji13) : Int).toNat) ((Kd.R_reads' (Kd.R_after (ok := (fun _ => True)) (by (with_reducible repeat (first | apply Kd.R_alloc | apply Kd.R_drewN | apply Kd.R_drew)); exact HO196.out) hg hat)).2.2) KL34.out))
                          have n4_ := Aside0.mk (ho)
                          clear HO196
                          clear HB
                          clear HR204
                          clear HR211
                          clear HO200
                          have HO196 := n0_
                          have HB := n1_
                          have HR204 := n2_
                          have HR211 := n3_
                          have HO207 := n4_
                          clear n0_ n1_ n2_ n3_ n4_
                          clear ho hb hg hat
                          refine hK.out _ _ trivial (fun hHeld => ?_)
                          clear hK K
                          refine norm_ (a' := ?_) ?_ ?_
                          rotate_left
                          · show Act.put _ (some 30) _ = _
                            simp only [Act.put, List.setIfInBounds_toArray, List.set_cons_zero, List.set_cons_succ, i64_w, i32_w]
                            rfl
                          refine one_ (i := 8) (N := some 34) #[true, true, true, true, true, true, true, true, true, false] rfl rfl (one_of HT_.out (by kernel_rfl)) (by decide) (fun K hK => ?_)
                          refine Kd.R_append_rows_step k48 (w0 := w) w.heap.size (by rfl) (.tmp 30) (.tmp 33) 22 48 (.agg #[(.int .i64 0), (.int .i64 0), (.int .i64 0), (.int .i64 0), (.int .i64 0), (.bool false)]) 48 rfl Try.underlying22 info48 rfl (by decide) (by omega) v206 y205 y208 _ _ _ (fun k_ => some k_ ≠ (.slice Ao31 t194.length co31 : Value).ownBlock) (fun _ => False) rfl rfl ?aO ?aR (fun _ _ h => h) (fun _ h => h.elim) ?aF ?aB ?aS ?aL ?_
                          (case aR => repeat (first | exact (by repeat (first | (with_reducible exact HR211.out) | (with_reducible refine Kd.C_alloc ?_ _) | (with_reducible refine Kd.C_drewN ?_ _) | (with_reducible refine Kd.C_drew ?_) | exact HR211.out)) | (with_reducible refine Kd.C_alloc ?_ _) | (with_reducible refine Kd.C_drewN ?_ _) | (with_reducible refine Kd.C_drew ?_)))
                          (case aB => exact (by repeat (first | (with_reducible first | exact HB.out | apply below_alloc | apply pw_below_drewN | apply below_drew1) | exact HB.out)))
                          (case aF => exact (fun k_ hk => Kd.fresh' (Kd.R_lt (by (with_reducible repeat (first | apply Kd.R_alloc | apply Kd.R_drewN | apply Kd.R_drew)); exact HO196.out)) k_ hk))
                          (case aO => exact (by (with_reducible repeat (first | apply Kd.R_alloc | apply Kd.R_drewN | apply Kd.R_drew)); exact HO207.out))
                          (case aS => exact (below_size (by repeat (first | (with_reducible first | exact HB.out | apply below_alloc | apply pw_below_drewN | apply below_drew1) | exact HB.out))))
                          (case aL => have := LMc19.out; omega)
                          intro v213 w38 ho hb hg hat
                          rw [← Ny212.out] at ho
                          have n0_ := Aside0.mk (Kd.R_after (ok := (fun _ => True)) (by (with_reducible repeat (first | apply Kd.R_alloc | apply Kd.R_drewN | apply Kd.R_drew)); exact HO196.out) hg hat)
                          have n1_ := Aside0.mk (hb)
                          have n2_ := Aside0.mk ((show Kd.C k48 w38 A33 y201.length y201 from by rw [Ny201.out, KA33.out]; exact Kd.C_drop (m := ((ji13) : Int).toNat) (c := co31) ((Kd.R_reads' (Kd.R_after (ok := (fun _ => True)) (by (with_reducible repeat (first | apply Kd.R_alloc | apply Kd.R_drewN | apply Kd.R_drew)); exact HO196.out) hg hat)).2.2) KL33.out ((Kd.R_reads' (Kd.R_after (ok := (fun _ => True)) (by (with_reducible repeat (first | apply Kd.R_alloc | apply Kd.R_drewN | apply Kd.R_drew)); exact HO196.out) hg hat)).2.1)))
                          have n3_ := Aside0.mk ((show Kd.C k48 w38 Ao31 y208.length y208 from by rw [Ny208.out]; exact Kd.C_take (m := ((ji13) : Int).toNat) ((Kd.R_reads' (Kd.R_after (ok := (fun _ => True)) (by (with_reducible repeat (first | apply Kd.R_alloc | apply Kd.R_drewN | apply Kd.R_drew)); exact HO196.out) hg hat)).2.2) KL34.out))
                          have n4_ := Aside0.mk (ho)
                          clear HO196
                          clear HB
                          clear HR204
                          clear HR211
                          clear HO207
                          have HO196 := n0_
                          have HB := n1_
                          have HR204 := n2_
                          have HR211 := n3_
                          have HO214 := n4_
                          clear n0_ n1_ n2_ n3_ n4_
                          clear ho hb hg hat
                          refine hK.out _ _ trivial (fun hHeld => ?_)
                          clear hK K
                          refine norm_ (a' := ?_) ?_ ?_
                          rotate_left
                          · show Act.put _ (some 34) _ = _
                            simp only [Act.put, List.setIfInBounds_toArray, List.set_cons_zero, List.set_cons_succ, i64_w, i32_w]
                            rfl
                          refine pure_ (i := 9) (N := some 9) (v := ?_) (a' := ?_) #[true, true, true, true, true, true, true, true, true, true] rfl rfl (any_of HT_.out (by kernel_rfl)) (fun _ _ _ h => h) (Or.inl ⟨by rfl, ?_⟩) ?_ ?_
                          rotate_left
                          · intro w'
                            go_simp
                            with_reducible rfl
                          rotate_left
                          · simp only [Act.put, List.setIfInBounds_toArray, List.set_cons_zero, List.set_cons_succ, i64_w, i32_w]
                            rfl
                          refine done_ (done_of HT_.out (by kernel_rfl)) ?_
                          try go_wp2_with (first | ((with_reducible refine gate_callee (f := 15) rfl ?_); refine goesL_ (some 35) rfl rfl Try.func15 (by kernel_rfl) rfl #[] rfl (by (try simp only [List.map_toArray, List.map_cons, List.map_nil]); first | done | rfl | (simp only [List.length_drop, List.length_take]; rfl)) ?_; (with_reducible refine (merkhetlaw17_fixed.calls k  true _ A20.out).mono ?_); rintro e w39 ⟨rfl, hb⟩; refine ⟨_, rfl, ?_⟩; have n0_ := Aside0.mk (Kd.R_below (by (with_reducible repeat (first | apply Kd.R_alloc | apply Kd.R_drewN | apply Kd.R_drew)); exact HO196.out) hb); have n1_ := Aside0.mk (Kd.R_below (by (with_reducible repeat (first | apply Kd.R_alloc | apply Kd.R_drewN | apply Kd.R_drew)); exact HO214.out) hb); have n2_ := Aside0.mk (Kd.C_below (by repeat (first | (with_reducible exact HR204.out) | (with_reducible refine Kd.C_alloc ?_ _) | (with_reducible refine Kd.C_drewN ?_ _) | (with_reducible refine Kd.C_drew ?_) | exact HR204.out)) hb); have n3_ := Aside0.mk (Kd.C_below (by repeat (first | (with_reducible exact HR211.out) | (with_reducible refine Kd.C_alloc ?_ _) | (with_reducible refine Kd.C_drewN ?_ _) | (with_reducible refine Kd.C_drew ?_) | exact HR211.out)) hb); have n4_ := Aside0.mk (below_step (by repeat (first | (with_reducible first | exact HB.out | apply below_alloc | apply pw_below_drewN | apply below_drew1) | exact HB.out)) hb); clear HO196; clear HO214; clear HR204; clear HR211; clear HB; have HO196 := n0_; have HO214 := n1_; have HR204 := n2_; have HR211 := n3_; have HB := n4_; clear n0_ n1_ n2_ n3_ n4_; (try clear hb); (try clear hb2); (try clear hk); (try clear hi)) | (go_at_call 18; (with_reducible refine (cert_Chain.calls k a0 _ _ l1 _ _ t194 true _ ?side1 ?side2 ?side3 ?side4 A22.out).mono ?_); (case side1 => repeat (first | exact (Kd.C_below HR1.out HB.out) | (with_reducible refine Kd.C_alloc ?_ _) | (with_reducible refine Kd.C_drewN ?_ _) | (with_reducible refine Kd.C_drew ?_))); (case side2 => exact HC1.out); (case side3 => repeat (first | exact (Kd.R_reads' HO196.out).2.2 | (with_reducible refine Kd.C_alloc ?_ _) | (with_reducible refine Kd.C_drewN ?_ _) | (with_reducible refine Kd.C_drew ?_))); (case side4 => exact (Kd.R_reads' HO196.out).2.1); rintro e w40 ⟨rfl, hb⟩; have n0_ := Aside0.mk (Kd.R_below (by (with_reducible repeat (first | apply Kd.R_alloc | apply Kd.R_drewN | apply Kd.R_drew)); exact HO196.out) hb); have n1_ := Aside0.mk (Kd.R_below (by (with_reducible repeat (first | apply Kd.R_alloc | apply Kd.R_drewN | apply Kd.R_drew)); exact HO214.out) hb); have n2_ := Aside0.mk (Kd.C_below (by repeat (first | (with_reducible exact HR204.out) | (with_reducible refine Kd.C_alloc ?_ _) | (with_reducible refine Kd.C_drewN ?_ _) | (with_reducible refine Kd.C_drew ?_) | exact HR204.out)) hb); have n3_ := Aside0.mk (Kd.C_below (by repeat (first | (with_reducible exact HR211.out) | (with_reducible refine Kd.C_alloc ?_ _) | (with_reducible refine Kd.C_drewN ?_ _) | (with_reducible refine Kd.C_drew ?_) | exact HR211.out)) hb); have n4_ := Aside0.mk (below_step (by repeat (first | (with_reducible first | exact HB.out | apply below_alloc | apply pw_below_drewN | apply below_drew1) | exact HB.out)) hb); clear HO196; clear HO214; clear HR204; clear HR211; clear HB; have HO196 := n0_; have HO214 := n1_; have HR204 := n2_; have HR211 := n3_; have HB := n4_; clear n0_ n1_ n2_ n3_ n4_; (try clear hb); (try clear hb2); (try clear hk); (try clear hi); obtain ⟨Ao41, co41, eo41⟩ := Kd.R_slice HO214.out; subst eo41) | (go_at_call 18; (with_reducible refine (cert_Chain.calls k a0 _ _ l1 _ _ y212 true _ ?side1 ?side2 ?side3 ?side4 A24.out).mono ?_); (case side1 => repeat (first | exact (Kd.C_below HR1.out HB.out) | (with_reducible refine Kd.C_alloc ?_ _) | (with_reducible refine Kd.C_drewN ?_ _) | (with_reducible refine Kd.C_drew ?_))); (case side2 => exact HC1.out); (case side3 => repeat (first | exact (Kd.R_reads' HO214.out).2.2 | (with_reducible refine Kd.C_alloc ?_ _) | (with_reducible refine Kd.C_drewN ?_ _) | (with_reducible refine Kd.C_drew ?_))); (case side4 => exact (Kd.R_reads' HO214.out).2.1); rintro e w42 ⟨rfl, hb⟩; have n0_ := Aside0.mk (Kd.R_below (by (with_reducible repeat (first | apply Kd.R_alloc | apply Kd.R_drewN | apply Kd.R_drew)); exact HO196.out) hb); have n1_ := Aside0.mk (Kd.R_below (by (with_reducible repeat (first | apply Kd.R_alloc | apply Kd.R_drewN | apply Kd.R_drew)); exact HO214.out) hb); have n2_ := Aside0.mk (Kd.C_below (by repeat (first | (with_reducible exact HR204.out) | (with_reducible refine Kd.C_alloc ?_ _) | (with_reducible refine Kd.C_drewN ?_ _) | (with_reducible refine Kd.C_drew ?_) | exact HR204.out)) hb); have n3_ := Aside0.mk (Kd.C_below (by repeat (first | (with_reducible exact HR211.out) | (with_reducible refine Kd.C_alloc ?_ _) | (with_reducible refine Kd.C_drewN ?_ _) | (with_reducible refine Kd.C_drew ?_) | exact HR211.out)) hb); have n4_ := Aside0.mk (below_step (by repeat (first | (with_reducible first | exact HB.out | apply below_alloc | apply pw_below_drewN | apply below_drew1) | exact HB.out)) hb); clear HO196; clear HO214; clear HR204; clear HR211; clear HB; have HO196 := n0_; have HO214 := n1_; have HR204 := n2_; have HR211 := n3_; have HB := n4_; clear n0_ n1_ n2_ n3_ n4_; (try clear hb); (try clear hb2); (try clear hk); (try clear hi)) | ((with_reducible refine gate_dst (N := 51) rfl ?_); (try (refine gate_guard (by rfl) ?_; dsimp only)); refine Kd.R_lit k48 _ 48 ?hg (N := 51) ?hd (xs := ([] : List (S48))) (inner := []) (ok := fun _ => True) (okp := fun _ => True) ?hr ?hp (fun _ hk => hk) trivial (Below.refl _ _) (Nat.le_refl _) (by simp) ?_; (case hd => rfl); (case hg => rfl); (case hr => first | (go_simp; done) | (go_simp; rfl)); (case hp => exact (Reps.none _ _)); intro v219 w43 ho44 hb hg_ hnew_; clear hg_ hnew_; (first | rw [← Ny218.out] at ho44 | (simp only [Int.reduceToNat] at ho44; rw [← Ny218.out] at ho44)); have n0_ := Aside0.mk (Kd.R_elder' (by (with_reducible repeat (first | apply Kd.R_alloc | apply Kd.R_drewN | apply Kd.R_drew)); exact HO196.out) (Kd.R_base ho44) hb); have n1_ := Aside0.mk (Kd.R_elder' (by (with_reducible repeat (first | apply Kd.R_alloc | apply Kd.R_drewN | apply Kd.R_drew)); exact HO214.out) (Kd.R_base ho44) hb); have n2_ := Aside0.mk (Kd.R_lower (Kd.R_new' (Kd.R_new' ho44 (Kd.R_lt (by (with_reducible repeat (first | apply Kd.R_alloc | apply Kd.R_drewN | apply Kd.R_drew)); exact HO196.out))) (Kd.R_lt (by (with_reducible repeat (first | apply Kd.R_alloc | apply Kd.R_drewN | apply Kd.R_drew)); exact HO214.out))) (below_size (by repeat (first | (with_reducible first | exact HB.out | apply below_alloc | apply pw_below_drewN | apply below_drew1) | exact HB.out)))); have n3_ := Aside0.mk (Kd.C_below (by repeat (first | (with_reducible exact HR204.out) | (with_reducible refine Kd.C_alloc ?_ _) | (with_reducible refine Kd.C_drewN ?_ _) | (with_reducible refine Kd.C_drew ?_) | exact HR204.out)) hb); have n4_ := Aside0.mk (Kd.C_below (by repeat (first | (with_reducible exact HR211.out) | (with_reducible refine Kd.C_alloc ?_ _) | (with_reducible refine Kd.C_drewN ?_ _) | (with_reducible refine Kd.C_drew ?_) | exact HR211.out)) hb); have n5_ := Aside0.mk (below_step (by repeat (first | (with_reducible first | exact HB.out | apply below_alloc | apply pw_below_drewN | apply below_drew1) | exact HB.out)) hb); clear HO196; clear HO214; clear HR204; clear HR211; clear HB; have HO196 := n0_; have HO214 := n1_; have HO220 := n2_; have HR204 := n3_; have HR211 := n4_; have HB := n5_; clear n0_ n1_ n2_ n3_ n4_ n5_; clear hb ho44) | ((with_reducible refine gate_builtin (b := .append) (xs := #[.tmp 51, .tmp 52]) rfl ?_); (try (refine gate_guard (by rfl) ?_; dsimp only)); at_builtin; refine Kd.R_append_rows k48 (w0 := w) w.heap.size rfl (.tmp 51) (.tmp 52) 22 48 (.agg #[(.int .i64 0), (.int .i64 0), (.int .i64 0), (.int .i64 0), (.int .i64 0), (.bool false)]) 48 rfl Try.underlying22 info48 rfl (by decide) (by omega) v219 y218 t194 _ _ _ (fun k_ => some k_ ≠ (.slice Ao31 t194.length co31 : Value).ownBlock ∧ some k_ ≠ (.slice Ao41 y212.length co41 : Value).ownBlock) (fun _ => False) rfl rfl ?aO ?aR (fun _ _ h => h) (fun _ h => h.elim) ?aF ?aB ?aS ?aL ?_; (case aR => repeat (first | exact (Kd.R_reads' HO196.out).2.2 | (with_reducible refine Kd.C_alloc ?_ _) | (with_reducible refine Kd.C_drewN ?_ _) | (with_reducible refine Kd.C_drew ?_))); (case aB => exact (by repeat (first | (with_reducible first | exact HB.out | apply below_alloc | apply pw_below_drewN | apply below_drew1) | exact HB.out))); (case aF => exact (fun k_ hk => ⟨Kd.fresh' (Kd.R_lt (by (with_reducible repeat (first | apply Kd.R_alloc | apply Kd.R_drewN | apply Kd.R_drew)); exact HO196.out)) k_ hk, Kd.fresh' (Kd.R_lt (by (with_reducible repeat (first | apply Kd.R_alloc | apply Kd.R_drewN | apply Kd.R_drew)); exact HO214.out)) k_ hk⟩)); (case aO => exact (by (with_reducible repeat (first | apply Kd.R_alloc | apply Kd.R_drewN | apply Kd.R_drew)); exact Kd.R_mono HO220.out (fun _ hk => ⟨hk.1.2, hk.2⟩))); (case aS => exact (below_size (by repeat (first | (with_reducible first | exact HB.out | apply below_alloc | apply pw_below_drewN | apply below_drew1) | exact HB.out)))); (case aL => have := LMc26.out; omega); intro v222 w45 ho hb hg hat; rw [← Ny221.out] at ho; have n0_ := Aside0.mk (Kd.R_after (ok := (fun k_ => some k_ ≠ (.slice Ao41 y212.length co41 : Value).ownBlock)) (by (with_reducible repeat (first | apply Kd.R_alloc | apply Kd.R_drewN | apply Kd.R_drew)); exact Kd.R_mono HO196.out (fun _ hk => ⟨hk.1.2, hk.2⟩)) hg hat); have n1_ := Aside0.mk (Kd.R_after (ok := (fun k_ => some k_ ≠ (.slice Ao31 t194.length co31 : Value).ownBlock)) (by (with_reducible repeat (first | apply Kd.R_alloc | apply Kd.R_drewN | apply Kd.R_drew)); exact HO214.out) hg hat); have n2_ := Aside0.mk (hb); have n3_ := Aside0.mk ((show Kd.C k48 w45 A33 y201.length y201 from by rw [Ny201.out, KA33.out]; exact Kd.C_drop (m := ((ji13) : Int).toNat) (c := co31) ((Kd.R_reads' (Kd.R_after (ok := (fun k_ => some k_ ≠ (.slice Ao41 y212.length co41 : Value).ownBlock)) (by (with_reducible repeat (first | apply Kd.R_alloc | apply Kd.R_drewN | apply Kd.R_drew)); exact Kd.R_mono HO196.out (fun _ hk => ⟨hk.1.2, hk.2⟩)) hg hat)).2.2) KL33.out ((Kd.R_reads' (Kd.R_after (ok := (fun k_ => some k_ ≠ (.slice Ao41 y212.length co41 : Value).ownBlock)) (by (with_reducible repeat (first | apply Kd.R_alloc | apply Kd.R_drewN | apply Kd.R_drew)); exact Kd.R_mono HO196.out (fun _ hk => ⟨hk.1.2, hk.2⟩)) hg hat)).2.1))); have n4_ := Aside0.mk ((show Kd.C k48 w45 Ao31 y208.length y208 from by rw [Ny208.out]; exact Kd.C_take (m := ((ji13) : Int).toNat) ((Kd.R_reads' (Kd.R_after (ok := (fun k_ => some k_ ≠ (.slice Ao41 y212.length co41 : Value).ownBlock)) (by (with_reducible repeat (first | apply Kd.R_alloc | apply Kd.R_drewN | apply Kd.R_drew)); exact Kd.R_mono HO196.out (fun _ hk => ⟨hk.1.2, hk.2⟩)) hg hat)).2.2) KL34.out)); have n5_ := Aside0.mk (ho); clear HO196; clear HO214; clear HB; clear HR204; clear HR211; clear HO220; have HO196 := n0_; have HO214 := n1_; have HB := n2_; have HR204 := n3_; have HR211 := n4_; have HO223 := n5_; clear n0_ n1_ n2_ n3_ n4_ n5_; clear ho hb hg hat) | ((with_reducible refine gate_builtin (b := .append) (xs := #[.tmp 53, .tmp 54]) rfl ?_); (try (refine gate_guard (by rfl) ?_; dsimp only)); at_builtin; refine Kd.R_append_rows k48 (w0 := w) w.heap.size rfl (.tmp 53) (.tmp 54) 22 48 (.agg #[(.int .i64 0), (.int .i64 0), (.int .i64 0), (.int .i64 0), (.int .i64 0), (.bool false)]) 48 rfl Try.underlying22 info48 rfl (by decide) (by omega) v222 y221 t194 _ _ _ (fun k_ => some k_ ≠ (.slice Ao31 t194.length co31 : Value).ownBlock ∧ some k_ ≠ (.slice Ao41 y212.length co41 : Value).ownBlock) (fun _ => False) rfl rfl ?aO ?aR (fun _ _ h => h) (fun _ h => h.elim) ?aF ?aB ?aS ?aL ?_; (case aR => repeat (first | exact (Kd.R_reads' HO196.out).2.2 | (with_reducible refine Kd.C_alloc ?_ _) | (with_reducible refine Kd.C_drewN ?_ _) | (with_reducible refine Kd.C_drew ?_))); (case aB => exact (by repeat (first | (with_reducible first | exact HB.out | apply below_alloc | apply pw_below_drewN | apply below_drew1) | exact HB.out))); (case aF => exact (fun k_ hk => ⟨Kd.fresh' (Kd.R_lt (by (with_reducible repeat (first | apply Kd.R_alloc | apply Kd.R_drewN | apply Kd.R_drew)); exact HO196.out)) k_ hk, Kd.fresh' (Kd.R_lt (by (with_reducible repeat (first | apply Kd.R_alloc | apply Kd.R_drewN | apply Kd.R_drew)); exact HO214.out)) k_ hk⟩)); (case aO => exact (by (with_reducible repeat (first | apply Kd.R_alloc | apply Kd.R_drewN | apply Kd.R_drew)); exact HO223.out)); (case aS => exact (below_size (by repeat (first | (with_reducible first | exact HB.out | apply below_alloc | apply pw_below_drewN | apply below_drew1) | exact HB.out)))); (case aL => have := LMc27.out; omega); intro v225 w46 ho hb hg hat; rw [← Ny224.out] at ho; have n0_ := Aside0.mk (Kd.R_after (ok := (fun k_ => some k_ ≠ (.slice Ao41 y212.length co41 : Value).ownBlock)) (by (with_reducible repeat (first | apply Kd.R_alloc | apply Kd.R_drewN | apply Kd.R_drew)); exact HO196.out) hg hat); have n1_ := Aside0.mk (Kd.R_after (ok := (fun k_ => some k_ ≠ (.slice Ao31 t194.length co31 : Value).ownBlock)) (by (with_reducible repeat (first | apply Kd.R_alloc | apply Kd.R_drewN | apply Kd.R_drew)); exact HO214.out) hg hat); have n2_ := Aside0.mk (hb); have n3_ := Aside0.mk ((show Kd.C k48 w46 A33 y201.length y201 from by rw [Ny201.out, KA33.out]; exact Kd.C_drop (m := ((ji13) : Int).toNat) (c := co31) ((Kd.R_reads' (Kd.R_after (ok := (fun k_ => some k_ ≠ (.slice Ao41 y212.length co41 : Value).ownBlock)) (by (with_reducible repeat (first | apply Kd.R_alloc | apply Kd.R_drewN | apply Kd.R_drew)); exact HO196.out) hg hat)).2.2) KL33.out ((Kd.R_reads' (Kd.R_after (ok := (fun k_ => some k_ ≠ (.slice Ao41 y212.length co41 : Value).ownBlock)) (by (with_reducible repeat (first | apply Kd.R_alloc | apply Kd.R_drewN | apply Kd.R_drew)); exact HO196.out) hg hat)).2.1))); have n4_ := Aside0.mk ((show Kd.C k48 w46 Ao31 y208.length y208 from by rw [Ny208.out]; exact Kd.C_take (m := ((ji13) : Int).toNat) ((Kd.R_reads' (Kd.R_after (ok := (fun k_ => some k_ ≠ (.slice Ao41 y212.length co41 : Value).ownBlock)) (by (with_reducible repeat (first | apply Kd.R_alloc | apply Kd.R_drewN | apply Kd.R_drew)); exact HO196.out) hg hat)).2.2) KL34.out)); have n5_ := Aside0.mk (ho); clear HO196; clear HO214; clear HB; clear HR204; clear HR211; clear HO223; have HO196 := n0_; have HO214 := n1_; have HB := n2_; have HR204 := n3_; have HR211 := n4_; have HO226 := n5_; clear n0_ n1_ n2_ n3_ n4_ n5_; clear ho hb hg hat; obtain ⟨Ao47, co47, eo47⟩ := Kd.R_slice HO226.out; subst eo47) | (go_at_call 18; (with_reducible refine (cert_Chain.calls k a0 _ _ l1 _ _ y224 true _ ?side1 ?side2 ?side3 ?side4 A28.out).mono ?_); (case side1 => repeat (first | exact (Kd.C_below HR1.out HB.out) | (with_reducible refine Kd.C_alloc ?_ _) | (with_reducible refine Kd.C_drewN ?_ _) | (with_reducible refine Kd.C_drew ?_))); (case side2 => exact HC1.out); (case side3 => repeat (first | exact (Kd.R_reads' HO226.out).2.2 | (with_reducible refine Kd.C_alloc ?_ _) | (with_reducible refine Kd.C_drewN ?_ _) | (with_reducible refine Kd.C_drew ?_))); (case side4 => exact (Kd.R_reads' HO226.out).2.1); rintro e w48 ⟨rfl, hb⟩; have n0_ := Aside0.mk (Kd.R_below (by (with_reducible repeat (first | apply Kd.R_alloc | apply Kd.R_drewN | apply Kd.R_drew)); exact HO196.out) hb); have n1_ := Aside0.mk (Kd.R_below (by (with_reducible repeat (first | apply Kd.R_alloc | apply Kd.R_drewN | apply Kd.R_drew)); exact HO214.out) hb); have n2_ := Aside0.mk (Kd.R_below (by (with_reducible repeat (first | apply Kd.R_alloc | apply Kd.R_drewN | apply Kd.R_drew)); exact HO226.out) hb); have n3_ := Aside0.mk (Kd.C_below (by repeat (first | (with_reducible exact HR204.out) | (with_reducible refine Kd.C_alloc ?_ _) | (with_reducible refine Kd.C_drewN ?_ _) | (with_reducible refine Kd.C_drew ?_) | exact HR204.out)) hb); have n4_ := Aside0.mk (Kd.C_below (by repeat (first | (with_reducible exact HR211.out) | (with_reducible refine Kd.C_alloc ?_ _) | (with_reducible refine Kd.C_drewN ?_ _) | (with_reducible refine Kd.C_drew ?_) | exact HR211.out)) hb); have n5_ := Aside0.mk (below_step (by repeat (first | (with_reducible first | exact HB.out | apply below_alloc | apply pw_below_drewN | apply below_drew1) | exact HB.out)) hb); clear HO196; clear HO214; clear HO226; clear HR204; clear HR211; clear HB; have HO196 := n0_; have HO214 := n1_; have HO226 := n2_; have HR204 := n3_; have HR211 := n4_; have HB := n5_; clear n0_ n1_ n2_ n3_ n4_ n5_; (try clear hb); (try clear hb2); (try clear hk); (try clear hi)))
                          go_ret
                          exact ⟨by first | rfl | (simp [errW_none, errW_some] <;> rfl) | (simp only [← hji13]; first | rfl | (simp [errW_none, errW_some] <;> rfl)) | (simp [*, errW_none, errW_some] <;> rfl), by repeat (first | (with_reducible first | exact HB.out | apply below_alloc | apply pw_below_drewN | apply below_drew1) | exact HB.out)⟩
                        · replace c29 := Bool.eq_false_iff.mpr c29
                          subst c29
                          have H1 : (if 0 ≤ (wrap64 ((t194.length : Int) - 1)) then (if (wrap64 ((t194.length : Int) - 1)) ≤ (t194.length : Int) then ((cert_Chain.f k a0 l1 (t194.take ((wrap64 ((t194.length : Int) - 1)) : Int).toNat)).bind fun t232 => (some (!t232))) else (none)) else (none)) = some r := by rw [if_neg (show ¬ (false = true) by decide)] at H; exact H
                          clear H
                          have H := H1
                          clear H1
                          obtain ⟨ji49, hji49⟩ : ∃ j_ : Int, (wrap64 ((t194.length : Int) - 1)) = j_ := ⟨_, rfl⟩
                          replace H : (if 0 ≤ (ji49) then (if (ji49) ≤ (t194.length : Int) then ((cert_Chain.f k a0 l1 (t194.take ((ji49) : Int).toNat)).bind fun t232 => (some (!t232))) else (none)) else (none)) = some r := by first | (rw [hji49] at H; exact H) | (simp only [hji49] at H ⊢; exact H)
                          (try rw [hji49] at A7)
                          (try rw [hji49] at A20)
                          (try rw [hji49] at A22)
                          (try rw [hji49] at A24)
                          (try rw [hji49] at A28)
                          have hji49w : (IntKind.i64.wrap ((t194.length : Int) - 1)) = ji49 := (i64_w _).trans hji49
                          by_cases c50 : 0 ≤ (ji49)
                          · rw [if_pos c50] at H
                            have c50b0 := eq_true c50
                            have c50b1 : decide (0 ≤ (ji49)) = true := decide_eq_true c50
                            clear c50
                            by_cases c51 : (ji49) ≤ (t194.length : Int)
                            · rw [if_pos c51] at H
                              have c51b0 := eq_true c51
                              have c51b1 : decide ((ji49) ≤ (t194.length : Int)) = true := decide_eq_true c51
                              clear c51
                              obtain ⟨y228, hy228⟩ : ∃ y_ : List (S48), y_ = (t194.take ((ji49) : Int).toNat) := ⟨_, rfl⟩
                              replace H : ((cert_Chain.f k a0 l1 y228).bind fun t232 => (some (!t232))) = some r := by first | (rw [hy228]; with_reducible exact H) | (have H2_ := (Option.bind_some _ _).symm.trans H; rw [hy228]; with_reducible exact H2_) | (have H2_ := (Option.bind_some _ _).symm.trans H; with_reducible exact H2_) | with_reducible exact H | (rw [hy228]; exact H) | exact H
                              have Ny228 := Aside0.mk hy228
                              clear hy228
                              replace H := Option.bind_eq_some_iff.mp H
                              obtain ⟨t232, A520, H⟩ := H
                              replace H : (some (!t232)) = some r := H
                              have A52 := Aside0.mk A520
                              clear A520
                              obtain rfl := Option.some.inj H
                              go_enter Try.func13, Try.ntmps13
                              try go_wp2_with (first | ((with_reducible refine gate_callee (f := 32) rfl ?_); refine goesL_ (some 16) rfl rfl Try.func32 (by kernel_rfl) rfl #[.int .i64 a0, .slice A1 l1.length c1] rfl (by (try simp only [List.map_toArray, List.map_cons, List.map_nil]); first | done | rfl | (simp only [List.length_drop, List.length_take]; rfl)) ?_; (with_reducible refine (loop_Of.calls k a0 _ _ l1 t194 _ ?side1 ?side2 A7.out).mono ?_); (case side1 => repeat (first | exact HR1.out | (with_reducible refine Kd.C_alloc ?_ _) | (with_reducible refine Kd.C_drewN ?_ _) | (with_reducible refine Kd.C_drew ?_))); (case side2 => exact HC1.out); rintro e w53 ⟨v195, rfl, ho0, hb⟩; refine ⟨_, rfl, ?_⟩; have n0_ := Aside0.mk (Kd.R_lower ho0 (below_size (by repeat (first | (with_reducible first | exact HB.out | apply below_alloc | apply pw_below_drewN | apply below_drew1) | exact HB.out)))); have n1_ := Aside0.mk (below_step (by repeat (first | (with_reducible first | exact HB.out | apply below_alloc | apply pw_below_drewN | apply below_drew1) | exact HB.out)) hb); clear HB; have HO196 := n0_; have HB := n1_; clear n0_ n1_; (try clear hb); (try clear hb2); (try clear hk); (try clear hi); (try clear ho0); obtain ⟨Ao54, co54, eo54⟩ := Kd.R_slice HO196.out; subst eo54))
                              (try (rw [drewN_self w53]; generalize hq_ : World.drewN w53 _ = w53; have n0_ : Aside0 (Kd.R k48 48 w53 w.heap.size (fun _ => True) (.slice Ao54 t194.length co54) t194) := ⟨by rw [← hq_]; exact (by (with_reducible repeat (first | apply Kd.R_alloc | apply Kd.R_drewN | apply Kd.R_drew)); exact HO196.out)⟩; have n1_ : Aside0 (Below w.heap.size w w53) := ⟨by rw [← hq_]; exact (by repeat (first | (with_reducible first | exact HB.out | apply below_alloc | apply pw_below_drewN | apply below_drew1) | exact HB.out))⟩; clear HO196 HB hq_; have HO196 := n0_; have HB := n1_; clear n0_ n1_))
                              have n0_ := Aside0.mk (Kd.R_drew HO196.out)
                              have n1_ := Aside0.mk (below_drew1 HB.out)
                              clear HO196
                              clear HB
                              have HO196 := n0_
                              have HB := n1_
                              clear n0_ n1_
                              have q56 : ((ji13) : Int) ≤ ((t194.length : Int) : Int) := of_decide_eq_true (by first | (with_reducible assumption) | assumption)
                              obtain ⟨i056, hi056, _, hsz56, _⟩ := info_parts info48
                              have hroom56 : t194.length ≤ co54 := (Kd.R_reads' HO196.out).2.1
                              have hC56 : Kd.C k48 _ Ao54 t194.length t194 := (Kd.R_reads' HO196.out).2.2
                              have q056 : (0 : Int) ≤ ((ji13) : Int) := of_decide_eq_true (by first | (with_reducible assumption) | assumption)
                              have hcut56 := cut_from (P := Try.prog) 22 48 .i64 Try.underlying22 hi056 6 hsz56 Ao54 t194.length co54 (ji13) q056 q56
                              have hr56 := Kd.C_drop (m := ((ji13) : Int).toNat) (c := co54) hC56 (by omega) hroom56
                              obtain ⟨A56, hA56⟩ : ∃ A1, A1 = (if co54 = ((ji13) : Int).toNat then Ao54 else (Ao54 : Option Addr).map (·.add (((ji13) : Int).toNat * 6))) := ⟨_, rfl⟩
                              obtain ⟨c56, hc56⟩ : ∃ c1, c1 = co54 - ((ji13) : Int).toNat := ⟨_, rfl⟩
                              have hy56 : y201.length = t194.length - ((ji13) : Int).toNat := (by rw [Ny201.out, List.length_drop] <;> omega)
                              rw [show (t194).drop ((ji13) : Int).toNat = y201 from Ny201.out.symm] at hr56
                              replace hr56 : Kd.C k48 _ A56 y201.length y201 := (by rw [hA56]; exact hr56)
                              rw [← hy56, ← hA56, ← hc56] at hcut56
                              have HR204 := Aside0.mk hr56
                              have HC204 := Aside0.mk (show y201.length ≤ c56 from by rw [hy56, hc56]; exact Nat.sub_le_sub_right hroom56 _)
                              clear hr56 hC56 hroom56 hi056 hsz56 hc56
                              have KY56 := Aside0.mk hy56
                              have KA56 := Aside0.mk hA56
                              clear hy56 hA56
                              have KL56 := Aside0.mk (show ((ji13) : Int).toNat ≤ t194.length from by omega)
                              replace q56 := eq_true q56
                              have q57 : ((ji13) : Int) ≤ ((t194.length : Int) : Int) := of_decide_eq_true (by first | (with_reducible assumption) | assumption)
                              obtain ⟨i057, hi057, _, hsz57, _⟩ := info_parts info48
                              have hroom57 : t194.length ≤ co54 := (Kd.R_reads' HO196.out).2.1
                              have hC57 : Kd.C k48 _ Ao54 t194.length t194 := (Kd.R_reads' HO196.out).2.2
                              have hcut57 := cut_to (P := Try.prog) 22 48 .i64 Try.underlying22 hi057 Ao54 t194.length co54 (ji13) (of_decide_eq_true (by first | (with_reducible assumption) | assumption)) q57 hroom57
                              have hr57 := Kd.C_take (m := ((ji13) : Int).toNat) hC57 (by omega)
                              have hy57 : y208.length = ((ji13) : Int).toNat := (by rw [Ny208.out, List.length_take]; omega)
                              rw [← Ny208.out] at hr57
                              rw [← hy57] at hcut57
                              have HR211 := Aside0.mk hr57
                              have HC211 := Aside0.mk (show y208.length ≤ co54 from by omega)
                              clear hr57 hC57 hroom57 hi057 hsz57
                              have KY57 := Aside0.mk hy57
                              clear hy57
                              have KL57 := Aside0.mk (show ((ji13) : Int).toNat ≤ t194.length from by omega)
                              replace q57 := eq_true q57
                              refine start_ (n := 10) (S := fun w' => True) (ds := []) #[false, false, false, false, false, false, false, false, false, false] (by kernel_rfl) rfl rfl trivial (fun hHeld => ?_); refine with_tabW merkhetlaw17_CertTurned.tab7 merkhetlaw17_CertTurned.bits7 (fun HT_ HW_ => ?_)
                              generalize w53.drew = w55 at HO196 HB HR204 HR211 hHeld ⊢
                              refine pure_ (i := 1) (N := some 27) (v := ?_) (a' := ?_) #[false, true, false, false, false, false, false, false, false, false] rfl rfl (any_of HT_.out (by kernel_rfl)) (fun _ _ _ h => h) (Or.inl ⟨by rfl, ?_⟩) ?_ ?_
                              rotate_left
                              · intro w'
                                go_simp
                                with_reducible rfl
                              rotate_left
                              · simp only [Act.put, List.setIfInBounds_toArray, List.set_cons_zero, List.set_cons_succ, i64_w, i32_w]
                                rfl
                              refine pure_ (i := 2) (N := some 28) (v := ?_) (a' := ?_) #[false, true, true, false, false, false, false, false, false, false] rfl rfl (any_of HT_.out (by kernel_rfl)) (fun _ _ _ h => h) (Or.inl ⟨by rfl, ?_⟩) ?_ ?_
                              rotate_left
                              · intro w'
                                go_simp
                                with_reducible rfl
                              rotate_left
                              · simp only [Act.put, List.setIfInBounds_toArray, List.set_cons_zero, List.set_cons_succ, i64_w, i32_w]
                                rfl
                              refine pure_ (i := 3) (N := some 29) (v := ?_) (a' := ?_) #[false, true, true, true, false, false, false, false, false, false] rfl rfl (any_of HT_.out (by kernel_rfl)) (fun _ _ _ h => h) (Or.inl ⟨by rfl, ?_⟩) ?_ ?_
                              rotate_left
                              · intro w'
                                go_simp
                                with_reducible rfl
                              rotate_left
                              · simp only [Act.put, List.setIfInBounds_toArray, List.set_cons_zero, List.set_cons_succ, i64_w, i32_w]
                                rfl
                              refine pure_ (i := 5) (N := some 31) (v := ?_) (a' := ?_) #[false, true, true, true, false, true, false, false, false, false] rfl rfl (any_of HT_.out (by kernel_rfl)) (fun _ _ _ h => h) (Or.inl ⟨by rfl, ?_⟩) ?_ ?_
                              rotate_left
                              · intro w'
                                go_simp
                                with_reducible rfl
                              rotate_left
                              · simp only [Act.put, List.setIfInBounds_toArray, List.set_cons_zero, List.set_cons_succ, i64_w, i32_w]
                                rfl
                              refine pure_ (i := 6) (N := some 32) (v := ?_) (a' := ?_) #[false, true, true, true, false, true, true, false, false, false] rfl rfl (any_of HT_.out (by kernel_rfl)) (fun _ _ _ h => h) (Or.inl ⟨by rfl, ?_⟩) ?_ ?_
                              rotate_left
                              · intro w'
                                go_simp
                                with_reducible rfl
                              rotate_left
                              · simp only [Act.put, List.setIfInBounds_toArray, List.set_cons_zero, List.set_cons_succ, i64_w, i32_w]
                                rfl
                              refine pure_ (i := 7) (N := some 33) (v := ?_) (a' := ?_) #[false, true, true, true, false, true, true, true, false, false] rfl rfl (any_of HT_.out (by kernel_rfl)) (fun _ _ _ h => h) (Or.inl ⟨by rfl, ?_⟩) ?_ ?_
                              rotate_left
                              · intro w'
                                go_simp
                                with_reducible rfl
                              rotate_left
                              · simp only [Act.put, List.setIfInBounds_toArray, List.set_cons_zero, List.set_cons_succ, i64_w, i32_w]
                                rfl
                              refine one_ (i := 0) (N := some 26) #[true, true, true, true, false, true, true, true, false, false] rfl rfl (one_of HT_.out (by kernel_rfl)) (by decide) (fun K hK => ?_)
                              refine Kd.R_lit_step k48 _ 48 ?hg (N := 26) ?hd (xs := ([] : List (S48))) (inner := []) (ok := fun _ => True) (okp := fun _ => True) ?hr ?hp (fun _ hk => hk) trivial (Below.refl _ _) (Nat.le_refl _) (by simp) ?_; (case hd => rfl); (case hg => rfl); (case hr => first | (go_simp; done) | (go_simp; rfl)); (case hp => exact (Reps.none _ _))
                              intro v199 w58 ho59 hb hg_ hnew_
                              clear hg_ hnew_
                              (first | rw [← Ny198.out] at ho59 | (simp only [Int.reduceToNat] at ho59; rw [← Ny198.out] at ho59))
                              have n0_ := Aside0.mk (Kd.R_elder' (by (with_reducible repeat (first | apply Kd.R_alloc | apply Kd.R_drewN | apply Kd.R_drew)); exact HO196.out) (Kd.R_base ho59) hb)
                              have n1_ := Aside0.mk (Kd.R_lower (Kd.R_new' ho59 (Kd.R_lt (by (with_reducible repeat (first | apply Kd.R_alloc | apply Kd.R_drewN | apply Kd.R_drew)); exact HO196.out))) (below_size (by repeat (first | (with_reducible first | exact HB.out | apply below_alloc | apply pw_below_drewN | apply below_drew1) | exact HB.out))))
                              have n2_ := Aside0.mk (Kd.C_below (by repeat (first | (with_reducible exact HR204.out) | (with_reducible refine Kd.C_alloc ?_ _) | (with_reducible refine Kd.C_drewN ?_ _) | (with_reducible refine Kd.C_drew ?_) | exact HR204.out)) hb)
                              have n3_ := Aside0.mk (Kd.C_below (by repeat (first | (with_reducible exact HR211.out) | (with_reducible refine Kd.C_alloc ?_ _) | (with_reducible refine Kd.C_drewN ?_ _) | (with_reducible refine Kd.C_drew ?_) | exact HR211.out)) hb)
                              have n4_ := Aside0.mk (below_step (by repeat (first | (with_reducible first | exact HB.out | apply below_alloc | apply pw_below_drewN | apply below_drew1) | exact HB.out)) hb)
                              clear HO196
                              clear HR204
                              clear HR211
                              clear HB
                              have HO196 := n0_
                              have HO200 := n1_
                              have HR204 := n2_
                              have HR211 := n3_
                              have HB := n4_
                              clear n0_ n1_ n2_ n3_ n4_
                              clear hb ho59
                              refine hK.out _ _ trivial (fun hHeld => ?_)
                              clear hK K
                              refine norm_ (a' := ?_) ?_ ?_
                              rotate_left
                              · show Act.put _ (some 26) _ = _
                                simp only [Act.put, List.setIfInBounds_toArray, List.set_cons_zero, List.set_cons_succ, i64_w, i32_w]
                                rfl
                              refine one_ (i := 4) (N := some 30) #[true, true, true, true, true, true, true, true, false, false] rfl rfl (one_of HT_.out (by kernel_rfl)) (by decide) (fun K hK => ?_)
                              refine Kd.R_append_rows_step k48 (w0 := w) w.heap.size (by rfl) (.tmp 26) (.tmp 29) 22 48 (.agg #[(.int .i64 0), (.int .i64 0), (.int .i64 0), (.int .i64 0), (.int .i64 0), (.bool false)]) 48 rfl Try.underlying22 info48 rfl (by decide) (by omega) v199 y198 y201 _ _ _ (fun k_ => some k_ ≠ (.slice Ao54 t194.length co54 : Value).ownBlock) (fun _ => False) rfl rfl ?aO ?aR (fun _ _ h => h) (fun _ h => h.elim) ?aF ?aB ?aS ?aL ?_
                              (case aR => repeat (first | exact (by repeat (first | (with_reducible exact HR204.out) | (with_reducible refine Kd.C_alloc ?_ _) | (with_reducible refine Kd.C_drewN ?_ _) | (with_reducible refine Kd.C_drew ?_) | exact HR204.out)) | (with_reducible refine Kd.C_alloc ?_ _) | (with_reducible refine Kd.C_drewN ?_ _) | (with_reducible refine Kd.C_drew ?_)))
                              (case aB => exact (by repeat (first | (with_reducible first | exact HB.out | apply below_alloc | apply pw_below_drewN | apply below_drew1) | exact HB.out)))
                              (case aF => exact (fun k_ hk => Kd.fresh' (Kd.R_lt (by (with_reducible repeat (first | apply Kd.R_alloc | apply Kd.R_drewN | apply Kd.R_drew)); exact HO196.out)) k_ hk))
                              (case aO => exact (by (with_reducible repeat (first | apply Kd.R_alloc | apply Kd.R_drewN | apply Kd.R_drew)); exact Kd.R_mono HO200.out (fun _ hk => hk.2)))
                              (case aS => exact (below_size (by repeat (first | (with_reducible first | exact HB.out | apply below_alloc | apply pw_below_drewN | apply below_drew1) | exact HB.out))))
                              (case aL => have := LMc16.out; omega)
                              intro v206 w60 ho hb hg hat
                              rw [← Ny205.out] at ho
                              have n0_ := Aside0.mk (Kd.R_after (ok := (fun _ => True)) (by (with_reducible repeat (first | apply Kd.R_alloc | apply Kd.R_drewN | apply Kd.R_drew)); exact HO196.out) hg hat)
                              have n1_ := Aside0.mk (hb)
                              have n2_ := Aside0.mk ((show Kd.C k48 w60 A56 y201.length y201 from by rw [Ny201.out, KA56.out]; exact Kd.C_drop (m := ((ji13) : Int).toNat) (c := co54) ((Kd.R_reads' (Kd.R_after (ok := (fun _ => True)) (by (with_reducible repeat (first | apply Kd.R_alloc | apply Kd.R_drewN | apply Kd.R_drew)); exact HO196.out) hg hat)).2.2) KL56.out ((Kd.R_reads' (Kd.R_after (ok := (fun _ => True)) (by (with_reducible repeat (first | apply Kd.R_alloc | apply Kd.R_drewN | apply Kd.R_drew)); exact HO196.out) hg hat)).2.1)))
                              have n3_ := Aside0.mk ((show Kd.C k48 w60 Ao54 y208.length y208 from by rw [Ny208.out]; exact Kd.C_take (m := ((ji13) : Int).toNat) ((Kd.R_reads' (Kd.R_after (ok := (fun _ => True)) (by (with_reducible repeat (first | apply Kd.R_alloc | apply Kd.R_drewN | apply Kd.R_drew)); exact HO196.out) hg hat)).2.2) KL57.out))
                              have n4_ := Aside0.mk (ho)
                              clear HO196
                              clear HB
                              clear HR204
                              clear HR211
                              clear HO200
                              have HO196 := n0_
                              have HB := n1_
                              have HR204 := n2_
                              have HR211 := n3_
                              have HO207 := n4_
                              clear n0_ n1_ n2_ n3_ n4_
                              clear ho hb hg hat
                              refine hK.out _ _ trivial (fun hHeld => ?_)
                              clear hK K
                              refine norm_ (a' := ?_) ?_ ?_
                              rotate_left
                              · show Act.put _ (some 30) _ = _
                                simp only [Act.put, List.setIfInBounds_toArray, List.set_cons_zero, List.set_cons_succ, i64_w, i32_w]
                                rfl
                              refine one_ (i := 8) (N := some 34) #[true, true, true, true, true, true, true, true, true, false] rfl rfl (one_of HT_.out (by kernel_rfl)) (by decide) (fun K hK => ?_)
                              refine Kd.R_append_rows_step k48 (w0 := w) w.heap.size (by rfl) (.tmp 30) (.tmp 33) 22 48 (.agg #[(.int .i64 0), (.int .i64 0), (.int .i64 0), (.int .i64 0), (.int .i64 0), (.bool false)]) 48 rfl Try.underlying22 info48 rfl (by decide) (by omega) v206 y205 y208 _ _ _ (fun k_ => some k_ ≠ (.slice Ao54 t194.length co54 : Value).ownBlock) (fun _ => False) rfl rfl ?aO ?aR (fun _ _ h => h) (fun _ h => h.elim) ?aF ?aB ?aS ?aL ?_
                              (case aR => repeat (first | exact (by repeat (first | (with_reducible exact HR211.out) | (with_reducible refine Kd.C_alloc ?_ _) | (with_reducible refine Kd.C_drewN ?_ _) | (with_reducible refine Kd.C_drew ?_) | exact HR211.out)) | (with_reducible refine Kd.C_alloc ?_ _) | (with_reducible refine Kd.C_drewN ?_ _) | (with_reducible refine Kd.C_drew ?_)))
                              (case aB => exact (by repeat (first | (with_reducible first | exact HB.out | apply below_alloc | apply pw_below_drewN | apply below_drew1) | exact HB.out)))
                              (case aF => exact (fun k_ hk => Kd.fresh' (Kd.R_lt (by (with_reducible repeat (first | apply Kd.R_alloc | apply Kd.R_drewN | apply Kd.R_drew)); exact HO196.out)) k_ hk))
                              (case aO => exact (by (with_reducible repeat (first | apply Kd.R_alloc | apply Kd.R_drewN | apply Kd.R_drew)); exact HO207.out))
                              (case aS => exact (below_size (by repeat (first | (with_reducible first | exact HB.out | apply below_alloc | apply pw_below_drewN | apply below_drew1) | exact HB.out))))
                              (case aL => have := LMc19.out; omega)
                              intro v213 w61 ho hb hg hat
                              rw [← Ny212.out] at ho
                              have n0_ := Aside0.mk (Kd.R_after (ok := (fun _ => True)) (by (with_reducible repeat (first | apply Kd.R_alloc | apply Kd.R_drewN | apply Kd.R_drew)); exact HO196.out) hg hat)
                              have n1_ := Aside0.mk (hb)
                              have n2_ := Aside0.mk ((show Kd.C k48 w61 A56 y201.length y201 from by rw [Ny201.out, KA56.out]; exact Kd.C_drop (m := ((ji13) : Int).toNat) (c := co54) ((Kd.R_reads' (Kd.R_after (ok := (fun _ => True)) (by (with_reducible repeat (first | apply Kd.R_alloc | apply Kd.R_drewN | apply Kd.R_drew)); exact HO196.out) hg hat)).2.2) KL56.out ((Kd.R_reads' (Kd.R_after (ok := (fun _ => True)) (by (with_reducible repeat (first | apply Kd.R_alloc | apply Kd.R_drewN | apply Kd.R_drew)); exact HO196.out) hg hat)).2.1)))
                              have n3_ := Aside0.mk ((show Kd.C k48 w61 Ao54 y208.length y208 from by rw [Ny208.out]; exact Kd.C_take (m := ((ji13) : Int).toNat) ((Kd.R_reads' (Kd.R_after (ok := (fun _ => True)) (by (with_reducible repeat (first | apply Kd.R_alloc | apply Kd.R_drewN | apply Kd.R_drew)); exact HO196.out) hg hat)).2.2) KL57.out))
                              have n4_ := Aside0.mk (ho)
                              clear HO196
                              clear HB
                              clear HR204
                              clear HR211
                              clear HO207
                              have HO196 := n0_
                              have HB := n1_
                              have HR204 := n2_
                              have HR211 := n3_
                              have HO214 := n4_
                              clear n0_ n1_ n2_ n3_ n4_
                              clear ho hb hg hat
                              refine hK.out _ _ trivial (fun hHeld => ?_)
                              clear hK K
                              refine norm_ (a' := ?_) ?_ ?_
                              rotate_left
                              · show Act.put _ (some 34) _ = _
                                simp only [Act.put, List.setIfInBounds_toArray, List.set_cons_zero, List.set_cons_succ, i64_w, i32_w]
                                rfl
                              refine pure_ (i := 9) (N := some 9) (v := ?_) (a' := ?_) #[true, true, true, true, true, true, true, true, true, true] rfl rfl (any_of HT_.out (by kernel_rfl)) (fun _ _ _ h => h) (Or.inl ⟨by rfl, ?_⟩) ?_ ?_
                              rotate_left
                              · intro w'
                                go_simp
                                with_reducible rfl
                              rotate_left
                              · simp only [Act.put, List.setIfInBounds_toArray, List.set_cons_zero, List.set_cons_succ, i64_w, i32_w]
                                rfl
                              refine done_ (done_of HT_.out (by kernel_rfl)) ?_
                              try go_wp2_with (first | ((with_reducible refine gate_callee (f := 15) rfl ?_); refine goesL_ (some 35) rfl rfl Try.func15 (by kernel_rfl) rfl #[] rfl (by (try simp only [List.map_toArray, List.map_cons, List.map_nil]); first | done | rfl | (simp only [List.length_drop, List.length_take]; rfl)) ?_; (with_reducible refine (merkhetlaw17_fixed.calls k  true _ A20.out).mono ?_); rintro e w62 ⟨rfl, hb⟩; refine ⟨_, rfl, ?_⟩; have n0_ := Aside0.mk (Kd.R_below (by (with_reducible repeat (first | apply Kd.R_alloc | apply Kd.R_drewN | apply Kd.R_drew)); exact HO196.out) hb); have n1_ := Aside0.mk (Kd.R_below (by (with_reducible repeat (first | apply Kd.R_alloc | apply Kd.R_drewN | apply Kd.R_drew)); exact HO214.out) hb); have n2_ := Aside0.mk (Kd.C_below (by repeat (first | (with_reducible exact HR204.out) | (with_reducible refine Kd.C_alloc ?_ _) | (with_reducible refine Kd.C_drewN ?_ _) | (with_reducible refine Kd.C_drew ?_) | exact HR204.out)) hb); have n3_ := Aside0.mk (Kd.C_below (by repeat (first | (with_reducible exact HR211.out) | (with_reducible refine Kd.C_alloc ?_ _) | (with_reducible refine Kd.C_drewN ?_ _) | (with_reducible refine Kd.C_drew ?_) | exact HR211.out)) hb); have n4_ := Aside0.mk (below_step (by repeat (first | (with_reducible first | exact HB.out | apply below_alloc | apply pw_below_drewN | apply below_drew1) | exact HB.out)) hb); clear HO196; clear HO214; clear HR204; clear HR211; clear HB; have HO196 := n0_; have HO214 := n1_; have HR204 := n2_; have HR211 := n3_; have HB := n4_; clear n0_ n1_ n2_ n3_ n4_; (try clear hb); (try clear hb2); (try clear hk); (try clear hi)) | (go_at_call 18; (with_reducible refine (cert_Chain.calls k a0 _ _ l1 _ _ t194 true _ ?side1 ?side2 ?side3 ?side4 A22.out).mono ?_); (case side1 => repeat (first | exact (Kd.C_below HR1.out HB.out) | (with_reducible refine Kd.C_alloc ?_ _) | (with_reducible refine Kd.C_drewN ?_ _) | (with_reducible refine Kd.C_drew ?_))); (case side2 => exact HC1.out); (case side3 => repeat (first | exact (Kd.R_reads' HO196.out).2.2 | (with_reducible refine Kd.C_alloc ?_ _) | (with_reducible refine Kd.C_drewN ?_ _) | (with_reducible refine Kd.C_drew ?_))); (case side4 => exact (Kd.R_reads' HO196.out).2.1); rintro e w63 ⟨rfl, hb⟩; have n0_ := Aside0.mk (Kd.R_below (by (with_reducible repeat (first | apply Kd.R_alloc | apply Kd.R_drewN | apply Kd.R_drew)); exact HO196.out) hb); have n1_ := Aside0.mk (Kd.R_below (by (with_reducible repeat (first | apply Kd.R_alloc | apply Kd.R_drewN | apply Kd.R_drew)); exact HO214.out) hb); have n2_ := Aside0.mk (Kd.C_below (by repeat (first | (with_reducible exact HR204.out) | (with_reducible refine Kd.C_alloc ?_ _) | (with_reducible refine Kd.C_drewN ?_ _) | (with_reducible refine Kd.C_drew ?_) | exact HR204.out)) hb); have n3_ := Aside0.mk (Kd.C_below (by repeat (first | (with_reducible exact HR211.out) | (with_reducible refine Kd.C_alloc ?_ _) | (with_reducible refine Kd.C_drewN ?_ _) | (with_reducible refine Kd.C_drew ?_) | exact HR211.out)) hb); have n4_ := Aside0.mk (below_step (by repeat (first | (with_reducible first | exact HB.out | apply below_alloc | apply pw_below_drewN | apply below_drew1) | exact HB.out)) hb); clear HO196; clear HO214; clear HR204; clear HR211; clear HB; have HO196 := n0_; have HO214 := n1_; have HR204 := n2_; have HR211 := n3_; have HB := n4_; clear n0_ n1_ n2_ n3_ n4_; (try clear hb); (try clear hb2); (try clear hk); (try clear hi); obtain ⟨Ao64, co64, eo64⟩ := Kd.R_slice HO214.out; subst eo64) | (go_at_call 18; (with_reducible refine (cert_Chain.calls k a0 _ _ l1 _ _ y212 true _ ?side1 ?side2 ?side3 ?side4 A24.out).mono ?_); (case side1 => repeat (first | exact (Kd.C_below HR1.out HB.out) | (with_reducible refine Kd.C_alloc ?_ _) | (with_reducible refine Kd.C_drewN ?_ _) | (with_reducible refine Kd.C_drew ?_))); (case side2 => exact HC1.out); (case side3 => repeat (first | exact (Kd.R_reads' HO214.out).2.2 | (with_reducible refine Kd.C_alloc ?_ _) | (with_reducible refine Kd.C_drewN ?_ _) | (with_reducible refine Kd.C_drew ?_))); (case side4 => exact (Kd.R_reads' HO214.out).2.1); rintro e w65 ⟨rfl, hb⟩; have n0_ := Aside0.mk (Kd.R_below (by (with_reducible repeat (first | apply Kd.R_alloc | apply Kd.R_drewN | apply Kd.R_drew)); exact HO196.out) hb); have n1_ := Aside0.mk (Kd.R_below (by (with_reducible repeat (first | apply Kd.R_alloc | apply Kd.R_drewN | apply Kd.R_drew)); exact HO214.out) hb); have n2_ := Aside0.mk (Kd.C_below (by repeat (first | (with_reducible exact HR204.out) | (with_reducible refine Kd.C_alloc ?_ _) | (with_reducible refine Kd.C_drewN ?_ _) | (with_reducible refine Kd.C_drew ?_) | exact HR204.out)) hb); have n3_ := Aside0.mk (Kd.C_below (by repeat (first | (with_reducible exact HR211.out) | (with_reducible refine Kd.C_alloc ?_ _) | (with_reducible refine Kd.C_drewN ?_ _) | (with_reducible refine Kd.C_drew ?_) | exact HR211.out)) hb); have n4_ := Aside0.mk (below_step (by repeat (first | (with_reducible first | exact HB.out | apply below_alloc | apply pw_below_drewN | apply below_drew1) | exact HB.out)) hb); clear HO196; clear HO214; clear HR204; clear HR211; clear HB; have HO196 := n0_; have HO214 := n1_; have HR204 := n2_; have HR211 := n3_; have HB := n4_; clear n0_ n1_ n2_ n3_ n4_; (try clear hb); (try clear hb2); (try clear hk); (try clear hi)) | ((with_reducible refine gate_dst (N := 51) rfl ?_); (try (refine gate_guard (by rfl) ?_; dsimp only)); refine Kd.R_lit k48 _ 48 ?hg (N := 51) ?hd (xs := ([] : List (S48))) (inner := []) (ok := fun _ => True) (okp := fun _ => True) ?hr ?hp (fun _ hk => hk) trivial (Below.refl _ _) (Nat.le_refl _) (by simp) ?_; (case hd => rfl); (case hg => rfl); (case hr => first | (go_simp; done) | (go_simp; rfl)); (case hp => exact (Reps.none _ _)); intro v219 w66 ho67 hb hg_ hnew_; clear hg_ hnew_; (first | rw [← Ny218.out] at ho67 | (simp only [Int.reduceToNat] at ho67; rw [← Ny218.out] at ho67)); have n0_ := Aside0.mk (Kd.R_elder' (by (with_reducible repeat (first | apply Kd.R_alloc | apply Kd.R_drewN | apply Kd.R_drew)); exact HO196.out) (Kd.R_base ho67) hb); have n1_ := Aside0.mk (Kd.R_elder' (by (with_reducible repeat (first | apply Kd.R_alloc | apply Kd.R_drewN | apply Kd.R_drew)); exact HO214.out) (Kd.R_base ho67) hb); have n2_ := Aside0.mk (Kd.R_lower (Kd.R_new' (Kd.R_new' ho67 (Kd.R_lt (by (with_reducible repeat (first | apply Kd.R_alloc | apply Kd.R_drewN | apply Kd.R_drew)); exact HO196.out))) (Kd.R_lt (by (with_reducible repeat (first | apply Kd.R_alloc | apply Kd.R_drewN | apply Kd.R_drew)); exact HO214.out))) (below_size (by repeat (first | (with_reducible first | exact HB.out | apply below_alloc | apply pw_below_drewN | apply below_drew1) | exact HB.out)))); have n3_ := Aside0.mk (Kd.C_below (by repeat (first | (with_reducible exact HR204.out) | (with_reducible refine Kd.C_alloc ?_ _) | (with_reducible refine Kd.C_drewN ?_ _) | (with_reducible refine Kd.C_drew ?_) | exact HR204.out)) hb); have n4_ := Aside0.mk (Kd.C_below (by repeat (first | (with_reducible exact HR211.out) | (with_reducible refine Kd.C_alloc ?_ _) | (with_reducible refine Kd.C_drewN ?_ _) | (with_reducible refine Kd.C_drew ?_) | exact HR211.out)) hb); have n5_ := Aside0.mk (below_step (by repeat (first | (with_reducible first | exact HB.out | apply below_alloc | apply pw_below_drewN | apply below_drew1) | exact HB.out)) hb); clear HO196; clear HO214; clear HR204; clear HR211; clear HB; have HO196 := n0_; have HO214 := n1_; have HO220 := n2_; have HR204 := n3_; have HR211 := n4_; have HB := n5_; clear n0_ n1_ n2_ n3_ n4_ n5_; clear hb ho67) | ((with_reducible refine gate_builtin (b := .append) (xs := #[.tmp 51, .tmp 52]) rfl ?_); (try (refine gate_guard (by rfl) ?_; dsimp only)); at_builtin; refine Kd.R_append_rows k48 (w0 := w) w.heap.size rfl (.tmp 51) (.tmp 52) 22 48 (.agg #[(.int .i64 0), (.int .i64 0), (.int .i64 0), (.int .i64 0), (.int .i64 0), (.bool false)]) 48 rfl Try.underlying22 info48 rfl (by decide) (by omega) v219 y218 t194 _ _ _ (fun k_ => some k_ ≠ (.slice Ao54 t194.length co54 : Value).ownBlock ∧ some k_ ≠ (.slice Ao64 y212.length co64 : Value).ownBlock) (fun _ => False) rfl rfl ?aO ?aR (fun _ _ h => h) (fun _ h => h.elim) ?aF ?aB ?aS ?aL ?_; (case aR => repeat (first | exact (Kd.R_reads' HO196.out).2.2 | (with_reducible refine Kd.C_alloc ?_ _) | (with_reducible refine Kd.C_drewN ?_ _) | (with_reducible refine Kd.C_drew ?_))); (case aB => exact (by repeat (first | (with_reducible first | exact HB.out | apply below_alloc | apply pw_below_drewN | apply below_drew1) | exact HB.out))); (case aF => exact (fun k_ hk => ⟨Kd.fresh' (Kd.R_lt (by (with_reducible repeat (first | apply Kd.R_alloc | apply Kd.R_drewN | apply Kd.R_drew)); exact HO196.out)) k_ hk, Kd.fresh' (Kd.R_lt (by (with_reducible repeat (first | apply Kd.R_alloc | apply Kd.R_drewN | apply Kd.R_drew)); exact HO214.out)) k_ hk⟩)); (case aO => exact (by (with_reducible repeat (first | apply Kd.R_alloc | apply Kd.R_drewN | apply Kd.R_drew)); exact Kd.R_mono HO220.out (fun _ hk => ⟨hk.1.2, hk.2⟩))); (case aS => exact (below_size (by repeat (first | (with_reducible first | exact HB.out | apply below_alloc | apply pw_below_drewN | apply below_drew1) | exact HB.out)))); (case aL => have := LMc26.out; omega); intro v222 w68 ho hb hg hat; rw [← Ny221.out] at ho; have n0_ := Aside0.mk (Kd.R_after (ok := (fun k_ => some k_ ≠ (.slice Ao64 y212.length co64 : Value).ownBlock)) (by (with_reducible repeat (first | apply Kd.R_alloc | apply Kd.R_drewN | apply Kd.R_drew)); exact Kd.R_mono HO196.out (fun _ hk => ⟨hk.1.2, hk.2⟩)) hg hat); have n1_ := Aside0.mk (Kd.R_after (ok := (fun k_ => some k_ ≠ (.slice Ao54 t194.length co54 : Value).ownBlock)) (by (with_reducible repeat (first | apply Kd.R_alloc | apply Kd.R_drewN | apply Kd.R_drew)); exact HO214.out) hg hat); have n2_ := Aside0.mk (hb); have n3_ := Aside0.mk ((show Kd.C k48 w68 A56 y201.length y201 from by rw [Ny201.out, KA56.out]; exact Kd.C_drop (m := ((ji13) : Int).toNat) (c := co54) ((Kd.R_reads' (Kd.R_after (ok := (fun k_ => some k_ ≠ (.slice Ao64 y212.length co64 : Value).ownBlock)) (by (with_reducible repeat (first | apply Kd.R_alloc | apply Kd.R_drewN | apply Kd.R_drew)); exact Kd.R_mono HO196.out (fun _ hk => ⟨hk.1.2, hk.2⟩)) hg hat)).2.2) KL56.out ((Kd.R_reads' (Kd.R_after (ok := (fun k_ => some k_ ≠ (.slice Ao64 y212.length co64 : Value).ownBlock)) (by (with_reducible repeat (first | apply Kd.R_alloc | apply Kd.R_drewN | apply Kd.R_drew)); exact Kd.R_mono HO196.out (fun _ hk => ⟨hk.1.2, hk.2⟩)) hg hat)).2.1))); have n4_ := Aside0.mk ((show Kd.C k48 w68 Ao54 y208.length y208 from by rw [Ny208.out]; exact Kd.C_take (m := ((ji13) : Int).toNat) ((Kd.R_reads' (Kd.R_after (ok := (fun k_ => some k_ ≠ (.slice Ao64 y212.length co64 : Value).ownBlock)) (by (with_reducible repeat (first | apply Kd.R_alloc | apply Kd.R_drewN | apply Kd.R_drew)); exact Kd.R_mono HO196.out (fun _ hk => ⟨hk.1.2, hk.2⟩)) hg hat)).2.2) KL57.out)); have n5_ := Aside0.mk (ho); clear HO196; clear HO214; clear HB; clear HR204; clear HR211; clear HO220; have HO196 := n0_; have HO214 := n1_; have HB := n2_; have HR204 := n3_; have HR211 := n4_; have HO223 := n5_; clear n0_ n1_ n2_ n3_ n4_ n5_; clear ho hb hg hat) | ((with_reducible refine gate_builtin (b := .append) (xs := #[.tmp 53, .tmp 54]) rfl ?_); (try (refine gate_guard (by rfl) ?_; dsimp only)); at_builtin; refine Kd.R_append_rows k48 (w0 := w) w.heap.size rfl (.tmp 53) (.tmp 54) 22 48 (.agg #[(.int .i64 0), (.int .i64 0), (.int .i64 0), (.int .i64 0), (.int .i64 0), (.bool false)]) 48 rfl Try.underlying22 info48 rfl (by decide) (by omega) v222 y221 t194 _ _ _ (fun k_ => some k_ ≠ (.slice Ao54 t194.length co54 : Value).ownBlock ∧ some k_ ≠ (.slice Ao64 y212.length co64 : Value).ownBlock) (fun _ => False) rfl rfl ?aO ?aR (fun _ _ h => h) (fun _ h => h.elim) ?aF ?aB ?aS ?aL ?_; (case aR => repeat (first | exact (Kd.R_reads' HO196.out).2.2 | (with_reducible refine Kd.C_alloc ?_ _) | (with_reducible refine Kd.C_drewN ?_ _) | (with_reducible refine Kd.C_drew ?_))); (case aB => exact (by repeat (first | (with_reducible first | exact HB.out | apply below_alloc | apply pw_below_drewN | apply below_drew1) | exact HB.out))); (case aF => exact (fun k_ hk => ⟨Kd.fresh' (Kd.R_lt (by (with_reducible repeat (first | apply Kd.R_alloc | apply Kd.R_drewN | apply Kd.R_drew)); exact HO196.out)) k_ hk, Kd.fresh' (Kd.R_lt (by (with_reducible repeat (first | apply Kd.R_alloc | apply Kd.R_drewN | apply Kd.R_drew)); exact HO214.out)) k_ hk⟩)); (case aO => exact (by (with_reducible repeat (first | apply Kd.R_alloc | apply Kd.R_drewN | apply Kd.R_drew)); exact HO223.out)); (case aS => exact (below_size (by repeat (first | (with_reducible first | exact HB.out | apply below_alloc | apply pw_below_drewN | apply below_drew1) | exact HB.out)))); (case aL => have := LMc27.out; omega); intro v225 w69 ho hb hg hat; rw [← Ny224.out] at ho; have n0_ := Aside0.mk (Kd.R_after (ok := (fun k_ => some k_ ≠ (.slice Ao64 y212.length co64 : Value).ownBlock)) (by (with_reducible repeat (first | apply Kd.R_alloc | apply Kd.R_drewN | apply Kd.R_drew)); exact HO196.out) hg hat); have n1_ := Aside0.mk (Kd.R_after (ok := (fun k_ => some k_ ≠ (.slice Ao54 t194.length co54 : Value).ownBlock)) (by (with_reducible repeat (first | apply Kd.R_alloc | apply Kd.R_drewN | apply Kd.R_drew)); exact HO214.out) hg hat); have n2_ := Aside0.mk (hb); have n3_ := Aside0.mk ((show Kd.C k48 w69 A56 y201.length y201 from by rw [Ny201.out, KA56.out]; exact Kd.C_drop (m := ((ji13) : Int).toNat) (c := co54) ((Kd.R_reads' (Kd.R_after (ok := (fun k_ => some k_ ≠ (.slice Ao64 y212.length co64 : Value).ownBlock)) (by (with_reducible repeat (first | apply Kd.R_alloc | apply Kd.R_drewN | apply Kd.R_drew)); exact HO196.out) hg hat)).2.2) KL56.out ((Kd.R_reads' (Kd.R_after (ok := (fun k_ => some k_ ≠ (.slice Ao64 y212.length co64 : Value).ownBlock)) (by (with_reducible repeat (first | apply Kd.R_alloc | apply Kd.R_drewN | apply Kd.R_drew)); exact HO196.out) hg hat)).2.1))); have n4_ := Aside0.mk ((show Kd.C k48 w69 Ao54 y208.length y208 from by rw [Ny208.out]; exact Kd.C_take (m := ((ji13) : Int).toNat) ((Kd.R_reads' (Kd.R_after (ok := (fun k_ => some k_ ≠ (.slice Ao64 y212.length co64 : Value).ownBlock)) (by (with_reducible repeat (first | apply Kd.R_alloc | apply Kd.R_drewN | apply Kd.R_drew)); exact HO196.out) hg hat)).2.2) KL57.out)); have n5_ := Aside0.mk (ho); clear HO196; clear HO214; clear HB; clear HR204; clear HR211; clear HO223; have HO196 := n0_; have HO214 := n1_; have HB := n2_; have HR204 := n3_; have HR211 := n4_; have HO226 := n5_; clear n0_ n1_ n2_ n3_ n4_ n5_; clear ho hb hg hat; obtain ⟨Ao70, co70, eo70⟩ := Kd.R_slice HO226.out; subst eo70) | (go_at_call 18; (with_reducible refine (cert_Chain.calls k a0 _ _ l1 _ _ y224 false _ ?side1 ?side2 ?side3 ?side4 A28.out).mono ?_); (case side1 => repeat (first | exact (Kd.C_below HR1.out HB.out) | (with_reducible refine Kd.C_alloc ?_ _) | (with_reducible refine Kd.C_drewN ?_ _) | (with_reducible refine Kd.C_drew ?_))); (case side2 => exact HC1.out); (case side3 => repeat (first | exact (Kd.R_reads' HO226.out).2.2 | (with_reducible refine Kd.C_alloc ?_ _) | (with_reducible refine Kd.C_drewN ?_ _) | (with_reducible refine Kd.C_drew ?_))); (case side4 => exact (Kd.R_reads' HO226.out).2.1); rintro e w71 ⟨rfl, hb⟩; have n0_ := Aside0.mk (Kd.R_below (by (with_reducible repeat (first | apply Kd.R_alloc | apply Kd.R_drewN | apply Kd.R_drew)); exact HO196.out) hb); have n1_ := Aside0.mk (Kd.R_below (by (with_reducible repeat (first | apply Kd.R_alloc | apply Kd.R_drewN | apply Kd.R_drew)); exact HO214.out) hb); have n2_ := Aside0.mk (Kd.R_below (by (with_reducible repeat (first | apply Kd.R_alloc | apply Kd.R_drewN | apply Kd.R_drew)); exact HO226.out) hb); have n3_ := Aside0.mk (Kd.C_below (by repeat (first | (with_reducible exact HR204.out) | (with_reducible refine Kd.C_alloc ?_ _) | (with_reducible refine Kd.C_drewN ?_ _) | (with_reducible refine Kd.C_drew ?_) | exact HR204.out)) hb); have n4_ := Aside0.mk (Kd.C_below (by repeat (first | (with_reducible exact HR211.out) | (with_reducible refine Kd.C_alloc ?_ _) | (with_reducible refine Kd.C_drewN ?_ _) | (with_reducible refine Kd.C_drew ?_) | exact HR211.out)) hb); have n5_ := Aside0.mk (below_step (by repeat (first | (with_reducible first | exact HB.out | apply below_alloc | apply pw_below_drewN | apply below_drew1) | exact HB.out)) hb); clear HO196; clear HO214; clear HO226; clear HR204; clear HR211; clear HB; have HO196 := n0_; have HO214 := n1_; have HO226 := n2_; have HR204 := n3_; have HR211 := n4_; have HB := n5_; clear n0_ n1_ n2_ n3_ n4_ n5_; (try clear hb); (try clear hb2); (try clear hk); (try clear hi); have q72 : ((ji49) : Int) ≤ ((t194.length : Int) : Int) := of_decide_eq_true (by first | (with_reducible assumption) | assumption); obtain ⟨i072, hi072, _, hsz72, _⟩ := info_parts info48; have hroom72 : t194.length ≤ co54 := (Kd.R_reads' HO196.out).2.1; have hC72 : Kd.C k48 _ Ao54 t194.length t194 := (Kd.R_reads' HO196.out).2.2; have hcut72 := cut_to (P := Try.prog) 22 48 .i64 Try.underlying22 hi072 Ao54 t194.length co54 (ji49) (of_decide_eq_true (by first | (with_reducible assumption) | assumption)) q72 hroom72; have hr72 := Kd.C_take (m := ((ji49) : Int).toNat) hC72 (by omega); have hy72 : y228.length = ((ji49) : Int).toNat := (by rw [Ny228.out, List.length_take]; omega); rw [← Ny228.out] at hr72; rw [← hy72] at hcut72; have HR231 := Aside0.mk hr72; have HC231 := Aside0.mk (show y228.length ≤ co54 from by omega); clear hr72 hC72 hroom72 hi072 hsz72; have KY72 := Aside0.mk hy72; clear hy72; have KL72 := Aside0.mk (show ((ji49) : Int).toNat ≤ t194.length from by omega); replace q72 := eq_true q72) | (go_at_call 18; (with_reducible refine (cert_Chain.calls k a0 _ _ l1 _ _ y228 t232 _ ?side1 ?side2 ?side3 ?side4 A52.out).mono ?_); (case side1 => repeat (first | exact (Kd.C_below HR1.out HB.out) | (with_reducible refine Kd.C_alloc ?_ _) | (with_reducible refine Kd.C_drewN ?_ _) | (with_reducible refine Kd.C_drew ?_))); (case side2 => exact HC1.out); (case side3 => repeat (first | exact (by repeat (first | (with_reducible exact HR231.out) | (with_reducible refine Kd.C_alloc ?_ _) | (with_reducible refine Kd.C_drewN ?_ _) | (with_reducible refine Kd.C_drew ?_) | exact HR231.out)) | (with_reducible refine Kd.C_alloc ?_ _) | (with_reducible refine Kd.C_drewN ?_ _) | (with_reducible refine Kd.C_drew ?_))); (case side4 => exact HC231.out); rintro e w73 ⟨rfl, hb⟩; have n0_ := Aside0.mk (Kd.R_below (by (with_reducible repeat (first | apply Kd.R_alloc | apply Kd.R_drewN | apply Kd.R_drew)); exact HO196.out) hb); have n1_ := Aside0.mk (Kd.R_below (by (with_reducible repeat (first | apply Kd.R_alloc | apply Kd.R_drewN | apply Kd.R_drew)); exact HO214.out) hb); have n2_ := Aside0.mk (Kd.R_below (by (with_reducible repeat (first | apply Kd.R_alloc | apply Kd.R_drewN | apply Kd.R_drew)); exact HO226.out) hb); have n3_ := Aside0.mk (Kd.C_below (by repeat (first | (with_reducible exact HR204.out) | (with_reducible refine Kd.C_alloc ?_ _) | (with_reducible refine Kd.C_drewN ?_ _) | (with_reducible refine Kd.C_drew ?_) | exact HR204.out)) hb); have n4_ := Aside0.mk (Kd.C_below (by repeat (first | (with_reducible exact HR211.out) | (with_reducible refine Kd.C_alloc ?_ _) | (with_reducible refine Kd.C_drewN ?_ _) | (with_reducible refine Kd.C_drew ?_) | exact HR211.out)) hb); have n5_ := Aside0.mk (Kd.C_below (by repeat (first | (with_reducible exact HR231.out) | (with_reducible refine Kd.C_alloc ?_ _) | (with_reducible refine Kd.C_drewN ?_ _) | (with_reducible refine Kd.C_drew ?_) | exact HR231.out)) hb); have n6_ := Aside0.mk (below_step (by repeat (first | (with_reducible first | exact HB.out | apply below_alloc | apply pw_below_drewN | apply below_drew1) | exact HB.out)) hb); clear HO196; clear HO214; clear HO226; clear HR204; clear HR211; clear HR231; clear HB; have HO196 := n0_; have HO214 := n1_; have HO226 := n2_; have HR204 := n3_; have HR211 := n4_; have HR231 := n5_; have HB := n6_; clear n0_ n1_ n2_ n3_ n4_ n5_ n6_; (try clear hb); (try clear hb2); (try clear hk); (try clear hi)))
                              go_ret
                              exact ⟨by first | rfl | (simp [errW_none, errW_some] <;> rfl) | (simp only [← hji13, ← hji49]; first | rfl | (simp [errW_none, errW_some] <;> rfl)) | (simp [*, errW_none, errW_some] <;> rfl), by repeat (first | (with_reducible first | exact HB.out | apply below_alloc | apply pw_below_drewN | apply below_drew1) | exact HB.out)⟩
                            · rw [if_neg c51] at H
                              exact absurd H (by simp)
                          · rw [if_neg c50] at H
                            exact absurd H (by simp)
                      · rw [if_neg c27] at H
                        exact absurd H (by simp)
                    · rw [if_neg c26] at H
                      exact absurd H (by simp)
                  · replace c25 := Bool.eq_false_iff.mpr c25
                    subst c25
                    have H1 : (some false) = some r := by rw [if_neg (show ¬ (false = true) by decide)] at H; exact H
                    clear H
                    have H := H1
                    clear H1
                    obtain rfl := Option.some.inj H
                    go_enter Try.func13, Try.ntmps13
                    try go_wp2_with (first | ((with_reducible refine gate_callee (f := 32) rfl ?_); refine goesL_ (some 16) rfl rfl Try.func32 (by kernel_rfl) rfl #[.int .i64 a0, .slice A1 l1.length c1] rfl (by (try simp only [List.map_toArray, List.map_cons, List.map_nil]); first | done | rfl | (simp only [List.length_drop, List.length_take]; rfl)) ?_; (with_reducible refine (loop_Of.calls k a0 _ _ l1 t194 _ ?side1 ?side2 A7.out).mono ?_); (case side1 => repeat (first | exact HR1.out | (with_reducible refine Kd.C_alloc ?_ _) | (with_reducible refine Kd.C_drewN ?_ _) | (with_reducible refine Kd.C_drew ?_))); (case side2 => exact HC1.out); rintro e w74 ⟨v195, rfl, ho0, hb⟩; refine ⟨_, rfl, ?_⟩; have n0_ := Aside0.mk (Kd.R_lower ho0 (below_size (by repeat (first | (with_reducible first | exact HB.out | apply below_alloc | apply pw_below_drewN | apply below_drew1) | exact HB.out)))); have n1_ := Aside0.mk (below_step (by repeat (first | (with_reducible first | exact HB.out | apply below_alloc | apply pw_below_drewN | apply below_drew1) | exact HB.out)) hb); clear HB; have HO196 := n0_; have HB := n1_; clear n0_ n1_; (try clear hb); (try clear hb2); (try clear hk); (try clear hi); (try clear ho0); obtain ⟨Ao75, co75, eo75⟩ := Kd.R_slice HO196.out; subst eo75))
                    (try (rw [drewN_self w74]; generalize hq_ : World.drewN w74 _ = w74; have n0_ : Aside0 (Kd.R k48 48 w74 w.heap.size (fun _ => True) (.slice Ao75 t194.length co75) t194) := ⟨by rw [← hq_]; exact (by (with_reducible repeat (first | apply Kd.R_alloc | apply Kd.R_drewN | apply Kd.R_drew)); exact HO196.out)⟩; have n1_ : Aside0 (Below w.heap.size w w74) := ⟨by rw [← hq_]; exact (by repeat (first | (with_reducible first | exact HB.out | apply below_alloc | apply pw_below_drewN | apply below_drew1) | exact HB.out))⟩; clear HO196 HB hq_; have HO196 := n0_; have HB := n1_; clear n0_ n1_))
                    have n0_ := Aside0.mk (Kd.R_drew HO196.out)
                    have n1_ := Aside0.mk (below_drew1 HB.out)
                    clear HO196
                    clear HB
                    have HO196 := n0_
                    have HB := n1_
                    clear n0_ n1_
                    have q77 : ((ji13) : Int) ≤ ((t194.length : Int) : Int) := of_decide_eq_true (by first | (with_reducible assumption) | assumption)
                    obtain ⟨i077, hi077, _, hsz77, _⟩ := info_parts info48
                    have hroom77 : t194.length ≤ co75 := (Kd.R_reads' HO196.out).2.1
                    have hC77 : Kd.C k48 _ Ao75 t194.length t194 := (Kd.R_reads' HO196.out).2.2
                    have q077 : (0 : Int) ≤ ((ji13) : Int) := of_decide_eq_true (by first | (with_reducible assumption) | assumption)
                    have hcut77 := cut_from (P := Try.prog) 22 48 .i64 Try.underlying22 hi077 6 hsz77 Ao75 t194.length co75 (ji13) q077 q77
                    have hr77 := Kd.C_drop (m := ((ji13) : Int).toNat) (c := co75) hC77 (by omega) hroom77
                    obtain ⟨A77, hA77⟩ : ∃ A1, A1 = (if co75 = ((ji13) : Int).toNat then Ao75 else (Ao75 : Option Addr).map (·.add (((ji13) : Int).toNat * 6))) := ⟨_, rfl⟩
                    obtain ⟨c77, hc77⟩ : ∃ c1, c1 = co75 - ((ji13) : Int).toNat := ⟨_, rfl⟩
                    have hy77 : y201.length = t194.length - ((ji13) : Int).toNat := (by rw [Ny201.out, List.length_drop] <;> omega)
                    rw [show (t194).drop ((ji13) : Int).toNat = y201 from Ny201.out.symm] at hr77
                    replace hr77 : Kd.C k48 _ A77 y201.length y201 := (by rw [hA77]; exact hr77)
                    rw [← hy77, ← hA77, ← hc77] at hcut77
                    have HR204 := Aside0.mk hr77
                    have HC204 := Aside0.mk (show y201.length ≤ c77 from by rw [hy77, hc77]; exact Nat.sub_le_sub_right hroom77 _)
                    clear hr77 hC77 hroom77 hi077 hsz77 hc77
                    have KY77 := Aside0.mk hy77
                    have KA77 := Aside0.mk hA77
                    clear hy77 hA77
                    have KL77 := Aside0.mk (show ((ji13) : Int).toNat ≤ t194.length from by omega)
                    replace q77 := eq_true q77
                    have q78 : ((ji13) : Int) ≤ ((t194.length : Int) : Int) := of_decide_eq_true (by first | (with_reducible assumption) | assumption)
                    obtain ⟨i078, hi078, _, hsz78, _⟩ := info_parts info48
                    have hroom78 : t194.length ≤ co75 := (Kd.R_reads' HO196.out).2.1
                    have hC78 : Kd.C k48 _ Ao75 t194.length t194 := (Kd.R_reads' HO196.out).2.2
                    have hcut78 := cut_to (P := Try.prog) 22 48 .i64 Try.underlying22 hi078 Ao75 t194.length co75 (ji13) (of_decide_eq_true (by first | (with_reducible assumption) | assumption)) q78 hroom78
                    have hr78 := Kd.C_take (m := ((ji13) : Int).toNat) hC78 (by omega)
                    have hy78 : y208.length = ((ji13) : Int).toNat := (by rw [Ny208.out, List.length_take]; omega)
                    rw [← Ny208.out] at hr78
                    rw [← hy78] at hcut78
                    have HR211 := Aside0.mk hr78
                    have HC211 := Aside0.mk (show y208.length ≤ co75 from by omega)
                    clear hr78 hC78 hroom78 hi078 hsz78
                    have KY78 := Aside0.mk hy78
                    clear hy78
                    have KL78 := Aside0.mk (show ((ji13) : Int).toNat ≤ t194.length from by omega)
                    replace q78 := eq_true q78
                    refine start_ (n := 10) (S := fun w' => True) (ds := []) #[false, false, false, false, false, false, false, false, false, false] (by kernel_rfl) rfl rfl trivial (fun hHeld => ?_); refine with_tabW merkhetlaw17_CertTurned.tab7 merkhetlaw17_CertTurned.bits7 (fun HT_ HW_ => ?_)
                    generalize w74.drew = w76 at HO196 HB HR204 HR211 hHeld ⊢
                    refine pure_ (i := 1) (N := some 27) (v := ?_) (a' := ?_) #[false, true, false, false, false, false, false, false, false, false] rfl rfl (any_of HT_.out (by kernel_rfl)) (fun _ _ _ h => h) (Or.inl ⟨by rfl, ?_⟩) ?_ ?_
                    rotate_left
                    · intro w'
                      go_simp
                      with_reducible rfl
                    rotate_left
                    · simp only [Act.put, List.setIfInBounds_toArray, List.set_cons_zero, List.set_cons_succ, i64_w, i32_w]
                      rfl
                    refine pure_ (i := 2) (N := some 28) (v := ?_) (a' := ?_) #[false, true, true, false, false, false, false, false, false, false] rfl rfl (any_of HT_.out (by kernel_rfl)) (fun _ _ _ h => h) (Or.inl ⟨by rfl, ?_⟩) ?_ ?_
                    rotate_left
                    · intro w'
                      go_simp
                      with_reducible rfl
                    rotate_left
                    · simp only [Act.put, List.setIfInBounds_toArray, List.set_cons_zero, List.set_cons_succ, i64_w, i32_w]
                      rfl
                    refine pure_ (i := 3) (N := some 29) (v := ?_) (a' := ?_) #[false, true, true, true, false, false, false, false, false, false] rfl rfl (any_of HT_.out (by kernel_rfl)) (fun _ _ _ h => h) (Or.inl ⟨by rfl, ?_⟩) ?_ ?_
                    rotate_left
                    · intro w'
                      go_simp
                      with_reducible rfl
                    rotate_left
                    · simp only [Act.put, List.setIfInBounds_toArray, List.set_cons_zero, List.set_cons_succ, i64_w, i32_w]
                      rfl
                    refine pure_ (i := 5) (N := some 31) (v := ?_) (a' := ?_) #[false, true, true, true, false, true, false, false, false, false] rfl rfl (any_of HT_.out (by kernel_rfl)) (fun _ _ _ h => h) (Or.inl ⟨by rfl, ?_⟩) ?_ ?_
                    rotate_left
                    · intro w'
                      go_simp
                      with_reducible rfl
                    rotate_left
                    · simp only [Act.put, List.setIfInBounds_toArray, List.set_cons_zero, List.set_cons_succ, i64_w, i32_w]
                      rfl
                    refine pure_ (i := 6) (N := some 32) (v := ?_) (a' := ?_) #[false, true, true, true, false, true, true, false, false, false] rfl rfl (any_of HT_.out (by kernel_rfl)) (fun _ _ _ h => h) (Or.inl ⟨by rfl, ?_⟩) ?_ ?_
                    rotate_left
                    · intro w'
                      go_simp
                      with_reducible rfl
                    rotate_left
                    · simp only [Act.put, List.setIfInBounds_toArray, List.set_cons_zero, List.set_cons_succ, i64_w, i32_w]
                      rfl
                    refine pure_ (i := 7) (N := some 33) (v := ?_) (a' := ?_) #[false, true, true, true, false, true, true, true, false, false] rfl rfl (any_of HT_.out (by kernel_rfl)) (fun _ _ _ h => h) (Or.inl ⟨by rfl, ?_⟩) ?_ ?_
                    rotate_left
                    · intro w'
                      go_simp
                      with_reducible rfl
                    rotate_left
                    · simp only [Act.put, List.setIfInBounds_toArray, List.set_cons_zero, List.set_cons_succ, i64_w, i32_w]
                      rfl
                    refine one_ (i := 0) (N := some 26) #[true, true, true, true, false, true, true, true, false, false] rfl rfl (one_of HT_.out (by kernel_rfl)) (by decide) (fun K hK => ?_)
                    refine Kd.R_lit_step k48 _ 48 ?hg (N := 26) ?hd (xs := ([] : List (S48))) (inner := []) (ok := fun _ => True) (okp := fun _ => True) ?hr ?hp (fun _ hk => hk) trivial (Below.refl _ _) (Nat.le_refl _) (by simp) ?_; (case hd => rfl); (case hg => rfl); (case hr => first | (go_simp; done) | (go_simp; rfl)); (case hp => exact (Reps.none _ _))
                    intro v199 w79 ho80 hb hg_ hnew_
                    clear hg_ hnew_
                    (first | rw [← Ny198.out] at ho80 | (simp only [Int.reduceToNat] at ho80; rw [← Ny198.out] at ho80))
                    have n0_ := Aside0.mk (Kd.R_elder' (by (with_reducible repeat (first | apply Kd.R_alloc | apply Kd.R_drewN | apply Kd.R_drew)); exact HO196.out) (Kd.R_base ho80) hb)
                    have n1_ := Aside0.mk (Kd.R_lower (Kd.R_new' ho80 (Kd.R_lt (by (with_reducible repeat (first | apply Kd.R_alloc | apply Kd.R_drewN | apply Kd.R_drew)); exact HO196.out))) (below_size (by repeat (first | (with_reducible first | exact HB.out | apply below_alloc | apply pw_below_drewN | apply below_drew1) | exact HB.out))))
                    have n2_ := Aside0.mk (Kd.C_below (by repeat (first | (with_reducible exact HR204.out) | (with_reducible refine Kd.C_alloc ?_ _) | (with_reducible refine Kd.C_drewN ?_ _) | (with_reducible refine Kd.C_drew ?_) | exact HR204.out)) hb)
                    have n3_ := Aside0.mk (Kd.C_below (by repeat (first | (with_reducible exact HR211.out) | (with_reducible refine Kd.C_alloc ?_ _) | (with_reducible refine Kd.C_drewN ?_ _) | (with_reducible refine Kd.C_drew ?_) | exact HR211.out)) hb)
                    have n4_ := Aside0.mk (below_step (by repeat (first | (with_reducible first | exact HB.out | apply below_alloc | apply pw_below_drewN | apply below_drew1) | exact HB.out)) hb)
                    clear HO196
                    clear HR204
                    clear HR211
                    clear HB
                    have HO196 := n0_
                    have HO200 := n1_
                    have HR204 := n2_
                    have HR211 := n3_
                    have HB := n4_
                    clear n0_ n1_ n2_ n3_ n4_
                    clear hb ho80
                    refine hK.out _ _ trivial (fun hHeld => ?_)
                    clear hK K
                    refine norm_ (a' := ?_) ?_ ?_
                    rotate_left
                    · show Act.put _ (some 26) _ = _
                      simp only [Act.put, List.setIfInBounds_toArray, List.set_cons_zero, List.set_cons_succ, i64_w, i32_w]
                      rfl
                    refine one_ (i := 4) (N := some 30) #[true, true, true, true, true, true, true, true, false, false] rfl rfl (one_of HT_.out (by kernel_rfl)) (by decide) (fun K hK => ?_)
                    refine Kd.R_append_rows_step k48 (w0 := w) w.heap.size (by rfl) (.tmp 26) (.tmp 29) 22 48 (.agg #[(.int .i64 0), (.int .i64 0), (.int .i64 0), (.int .i64 0), (.int .i64 0), (.bool false)]) 48 rfl Try.underlying22 info48 rfl (by decide) (by omega) v199 y198 y201 _ _ _ (fun k_ => some k_ ≠ (.slice Ao75 t194.length co75 : Value).ownBlock) (fun _ => False) rfl rfl ?aO ?aR (fun _ _ h => h) (fun _ h => h.elim) ?aF ?aB ?aS ?aL ?_
                    (case aR => repeat (first | exact (by repeat (first | (with_reducible exact HR204.out) | (with_reducible refine Kd.C_alloc ?_ _) | (with_reducible refine Kd.C_drewN ?_ _) | (with_reducible refine Kd.C_drew ?_) | exact HR204.out)) | (with_reducible refine Kd.C_alloc ?_ _) | (with_reducible refine Kd.C_drewN ?_ _) | (with_reducible refine Kd.C_drew ?_)))
                    (case aB => exact (by repeat (first | (with_reducible first | exact HB.out | apply below_alloc | apply pw_below_drewN | apply below_drew1) | exact HB.out)))
                    (case aF => exact (fun k_ hk => Kd.fresh' (Kd.R_lt (by (with_reducible repeat (first | apply Kd.R_alloc | apply Kd.R_drewN | apply Kd.R_drew)); exact HO196.out)) k_ hk))
                    (case aO => exact (by (with_reducible repeat (first | apply Kd.R_alloc | apply Kd.R_drewN | apply Kd.R_drew)); exact Kd.R_mono HO200.out (fun _ hk => hk.2)))
                    (case aS => exact (below_size (by repeat (first | (with_reducible first | exact HB.out | apply below_alloc | apply pw_below_drewN | apply below_drew1) | exact HB.out))))
                    (case aL => have := LMc16.out; omega)
                    intro v206 w81 ho hb hg hat
                    rw [← Ny205.out] at ho
                    have n0_ := Aside0.mk (Kd.R_after (ok := (fun _ => True)) (by (with_reducible repeat (first | apply Kd.R_alloc | apply Kd.R_drewN | apply Kd.R_drew)); exact HO196.out) hg hat)
                    have n1_ := Aside0.mk (hb)
                    have n2_ := Aside0.mk ((show Kd.C k48 w81 A77 y201.length y201 from by rw [Ny201.out, KA77.out]; exact Kd.C_drop (m := ((ji13) : Int).toNat) (c := co75) ((Kd.R_reads' (Kd.R_after (ok := (fun _ => True)) (by (with_reducible repeat (first | apply Kd.R_alloc | apply Kd.R_drewN | apply Kd.R_drew)); exact HO196.out) hg hat)).2.2) KL77.out ((Kd.R_reads' (Kd.R_after (ok := (fun _ => True)) (by (with_reducible repeat (first | apply Kd.R_alloc | apply Kd.R_drewN | apply Kd.R_drew)); exact HO196.out) hg hat)).2.1)))
                    have n3_ := Aside0.mk ((show Kd.C k48 w81 Ao75 y208.length y208 from by rw [Ny208.out]; exact Kd.C_take (m := ((ji13) : Int).toNat) ((Kd.R_reads' (Kd.R_after (ok := (fun _ => True)) (by (with_reducible repeat (first | apply Kd.R_alloc | apply Kd.R_drewN | apply Kd.R_drew)); exact HO196.out) hg hat)).2.2) KL78.out))
                    have n4_ := Aside0.mk (ho)
                    clear HO196
                    clear HB
                    clear HR204
                    clear HR211
                    clear HO200
                    have HO196 := n0_
                    have HB := n1_
                    have HR204 := n2_
                    have HR211 := n3_
                    have HO207 := n4_
                    clear n0_ n1_ n2_ n3_ n4_
                    clear ho hb hg hat
                    refine hK.out _ _ trivial (fun hHeld => ?_)
                    clear hK K
                    refine norm_ (a' := ?_) ?_ ?_
                    rotate_left
                    · show Act.put _ (some 30) _ = _
                      simp only [Act.put, List.setIfInBounds_toArray, List.set_cons_zero, List.set_cons_succ, i64_w, i32_w]
                      rfl
                    refine one_ (i := 8) (N := some 34) #[true, true, true, true, true, true, true, true, true, false] rfl rfl (one_of HT_.out (by kernel_rfl)) (by decide) (fun K hK => ?_)
                    refine Kd.R_append_rows_step k48 (w0 := w) w.heap.size (by rfl) (.tmp 30) (.tmp 33) 22 48 (.agg #[(.int .i64 0), (.int .i64 0), (.int .i64 0), (.int .i64 0), (.int .i64 0), (.bool false)]) 48 rfl Try.underlying22 info48 rfl (by decide) (by omega) v206 y205 y208 _ _ _ (fun k_ => some k_ ≠ (.slice Ao75 t194.length co75 : Value).ownBlock) (fun _ => False) rfl rfl ?aO ?aR (fun _ _ h => h) (fun _ h => h.elim) ?aF ?aB ?aS ?aL ?_
                    (case aR => repeat (first | exact (by repeat (first | (with_reducible exact HR211.out) | (with_reducible refine Kd.C_alloc ?_ _) | (with_reducible refine Kd.C_drewN ?_ _) | (with_reducible refine Kd.C_drew ?_) | exact HR211.out)) | (with_reducible refine Kd.C_alloc ?_ _) | (with_reducible refine Kd.C_drewN ?_ _) | (with_reducible refine Kd.C_drew ?_)))
                    (case aB => exact (by repeat (first | (with_reducible first | exact HB.out | apply below_alloc | apply pw_below_drewN | apply below_drew1) | exact HB.out)))
                    (case aF => exact (fun k_ hk => Kd.fresh' (Kd.R_lt (by (with_reducible repeat (first | apply Kd.R_alloc | apply Kd.R_drewN | apply Kd.R_drew)); exact HO196.out)) k_ hk))
                    (case aO => exact (by (with_reducible repeat (first | apply Kd.R_alloc | apply Kd.R_drewN | apply Kd.R_drew)); exact HO207.out))
                    (case aS => exact (below_size (by repeat (first | (with_reducible first | exact HB.out | apply below_alloc | apply pw_below_drewN | apply below_drew1) | exact HB.out))))
                    (case aL => have := LMc19.out; omega)
                    intro v213 w82 ho hb hg hat
                    rw [← Ny212.out] at ho
                    have n0_ := Aside0.mk (Kd.R_after (ok := (fun _ => True)) (by (with_reducible repeat (first | apply Kd.R_alloc | apply Kd.R_drewN | apply Kd.R_drew)); exact HO196.out) hg hat)
                    have n1_ := Aside0.mk (hb)
                    have n2_ := Aside0.mk ((show Kd.C k48 w82 A77 y201.length y201 from by rw [Ny201.out, KA77.out]; exact Kd.C_drop (m := ((ji13) : Int).toNat) (c := co75) ((Kd.R_reads' (Kd.R_after (ok := (fun _ => True)) (by (with_reducible repeat (first | apply Kd.R_alloc | apply Kd.R_drewN | apply Kd.R_drew)); exact HO196.out) hg hat)).2.2) KL77.out ((Kd.R_reads' (Kd.R_after (ok := (fun _ => True)) (by (with_reducible repeat (first | apply Kd.R_alloc | apply Kd.R_drewN | apply Kd.R_drew)); exact HO196.out) hg hat)).2.1)))
                    have n3_ := Aside0.mk ((show Kd.C k48 w82 Ao75 y208.length y208 from by rw [Ny208.out]; exact Kd.C_take (m := ((ji13) : Int).toNat) ((Kd.R_reads' (Kd.R_after (ok := (fun _ => True)) (by (with_reducible repeat (first | apply Kd.R_alloc | apply Kd.R_drewN | apply Kd.R_drew)); exact HO196.out) hg hat)).2.2) KL78.out))
                    have n4_ := Aside0.mk (ho)
                    clear HO196
                    clear HB
                    clear HR204
                    clear HR211
                    clear HO207
                    have HO196 := n0_
                    have HB := n1_
                    have HR204 := n2_
                    have HR211 := n3_
                    have HO214 := n4_
                    clear n0_ n1_ n2_ n3_ n4_
                    clear ho hb hg hat
                    refine hK.out _ _ trivial (fun hHeld => ?_)
                    clear hK K
                    refine norm_ (a' := ?_) ?_ ?_
                    rotate_left
                    · show Act.put _ (some 34) _ = _
                      simp only [Act.put, List.setIfInBounds_toArray, List.set_cons_zero, List.set_cons_succ, i64_w, i32_w]
                      rfl
                    refine pure_ (i := 9) (N := some 9) (v := ?_) (a' := ?_) #[true, true, true, true, true, true, true, true, true, true] rfl rfl (any_of HT_.out (by kernel_rfl)) (fun _ _ _ h => h) (Or.inl ⟨by rfl, ?_⟩) ?_ ?_
                    rotate_left
                    · intro w'
                      go_simp
                      with_reducible rfl
                    rotate_left
                    · simp only [Act.put, List.setIfInBounds_toArray, List.set_cons_zero, List.set_cons_succ, i64_w, i32_w]
                      rfl
                    refine done_ (done_of HT_.out (by kernel_rfl)) ?_
                    try go_wp2_with (first | ((with_reducible refine gate_callee (f := 15) rfl ?_); refine goesL_ (some 35) rfl rfl Try.func15 (by kernel_rfl) rfl #[] rfl (by (try simp only [List.map_toArray, List.map_cons, List.map_nil]); first | done | rfl | (simp only [List.length_drop, List.length_take]; rfl)) ?_; (with_reducible refine (merkhetlaw17_fixed.calls k  true _ A20.out).mono ?_); rintro e w83 ⟨rfl, hb⟩; refine ⟨_, rfl, ?_⟩; have n0_ := Aside0.mk (Kd.R_below (by (with_reducible repeat (first | apply Kd.R_alloc | apply Kd.R_drewN | apply Kd.R_drew)); exact HO196.out) hb); have n1_ := Aside0.mk (Kd.R_below (by (with_reducible repeat (first | apply Kd.R_alloc | apply Kd.R_drewN | apply Kd.R_drew)); exact HO214.out) hb); have n2_ := Aside0.mk (Kd.C_below (by repeat (first | (with_reducible exact HR204.out) | (with_reducible refine Kd.C_alloc ?_ _) | (with_reducible refine Kd.C_drewN ?_ _) | (with_reducible refine Kd.C_drew ?_) | exact HR204.out)) hb); have n3_ := Aside0.mk (Kd.C_below (by repeat (first | (with_reducible exact HR211.out) | (with_reducible refine Kd.C_alloc ?_ _) | (with_reducible refine Kd.C_drewN ?_ _) | (with_reducible refine Kd.C_drew ?_) | exact HR211.out)) hb); have n4_ := Aside0.mk (below_step (by repeat (first | (with_reducible first | exact HB.out | apply below_alloc | apply pw_below_drewN | apply below_drew1) | exact HB.out)) hb); clear HO196; clear HO214; clear HR204; clear HR211; clear HB; have HO196 := n0_; have HO214 := n1_; have HR204 := n2_; have HR211 := n3_; have HB := n4_; clear n0_ n1_ n2_ n3_ n4_; (try clear hb); (try clear hb2); (try clear hk); (try clear hi)) | (go_at_call 18; (with_reducible refine (cert_Chain.calls k a0 _ _ l1 _ _ t194 true _ ?side1 ?side2 ?side3 ?side4 A22.out).mono ?_); (case side1 => repeat (first | exact (Kd.C_below HR1.out HB.out) | (with_reducible refine Kd.C_alloc ?_ _) | (with_reducible refine Kd.C_drewN ?_ _) | (with_reducible refine Kd.C_drew ?_))); (case side2 => exact HC1.out); (case side3 => repeat (first | exact (Kd.R_reads' HO196.out).2.2 | (with_reducible refine Kd.C_alloc ?_ _) | (with_reducible refine Kd.C_drewN ?_ _) | (with_reducible refine Kd.C_drew ?_))); (case side4 => exact (Kd.R_reads' HO196.out).2.1); rintro e w84 ⟨rfl, hb⟩; have n0_ := Aside0.mk (Kd.R_below (by (with_reducible repeat (first | apply Kd.R_alloc | apply Kd.R_drewN | apply Kd.R_drew)); exact HO196.out) hb); have n1_ := Aside0.mk (Kd.R_below (by (with_reducible repeat (first | apply Kd.R_alloc | apply Kd.R_drewN | apply Kd.R_drew)); exact HO214.out) hb); have n2_ := Aside0.mk (Kd.C_below (by repeat (first | (with_reducible exact HR204.out) | (with_reducible refine Kd.C_alloc ?_ _) | (with_reducible refine Kd.C_drewN ?_ _) | (with_reducible refine Kd.C_drew ?_) | exact HR204.out)) hb); have n3_ := Aside0.mk (Kd.C_below (by repeat (first | (with_reducible exact HR211.out) | (with_reducible refine Kd.C_alloc ?_ _) | (with_reducible refine Kd.C_drewN ?_ _) | (with_reducible refine Kd.C_drew ?_) | exact HR211.out)) hb); have n4_ := Aside0.mk (below_step (by repeat (first | (with_reducible first | exact HB.out | apply below_alloc | apply pw_below_drewN | apply below_drew1) | exact HB.out)) hb); clear HO196; clear HO214; clear HR204; clear HR211; clear HB; have HO196 := n0_; have HO214 := n1_; have HR204 := n2_; have HR211 := n3_; have HB := n4_; clear n0_ n1_ n2_ n3_ n4_; (try clear hb); (try clear hb2); (try clear hk); (try clear hi); obtain ⟨Ao85, co85, eo85⟩ := Kd.R_slice HO214.out; subst eo85) | (go_at_call 18; (with_reducible refine (cert_Chain.calls k a0 _ _ l1 _ _ y212 false _ ?side1 ?side2 ?side3 ?side4 A24.out).mono ?_); (case side1 => repeat (first | exact (Kd.C_below HR1.out HB.out) | (with_reducible refine Kd.C_alloc ?_ _) | (with_reducible refine Kd.C_drewN ?_ _) | (with_reducible refine Kd.C_drew ?_))); (case side2 => exact HC1.out); (case side3 => repeat (first | exact (Kd.R_reads' HO214.out).2.2 | (with_reducible refine Kd.C_alloc ?_ _) | (with_reducible refine Kd.C_drewN ?_ _) | (with_reducible refine Kd.C_drew ?_))); (case side4 => exact (Kd.R_reads' HO214.out).2.1); rintro e w86 ⟨rfl, hb⟩; have n0_ := Aside0.mk (Kd.R_below (by (with_reducible repeat (first | apply Kd.R_alloc | apply Kd.R_drewN | apply Kd.R_drew)); exact HO196.out) hb); have n1_ := Aside0.mk (Kd.R_below (by (with_reducible repeat (first | apply Kd.R_alloc | apply Kd.R_drewN | apply Kd.R_drew)); exact HO214.out) hb); have n2_ := Aside0.mk (Kd.C_below (by repeat (first | (with_reducible exact HR204.out) | (with_reducible refine Kd.C_alloc ?_ _) | (with_reducible refine Kd.C_drewN ?_ _) | (with_reducible refine Kd.C_drew ?_) | exact HR204.out)) hb); have n3_ := Aside0.mk (Kd.C_below (by repeat (first | (with_reducible exact HR211.out) | (with_reducible refine Kd.C_alloc ?_ _) | (with_reducible refine Kd.C_drewN ?_ _) | (with_reducible refine Kd.C_drew ?_) | exact HR211.out)) hb); have n4_ := Aside0.mk (below_step (by repeat (first | (with_reducible first | exact HB.out | apply below_alloc | apply pw_below_drewN | apply below_drew1) | exact HB.out)) hb); clear HO196; clear HO214; clear HR204; clear HR211; clear HB; have HO196 := n0_; have HO214 := n1_; have HR204 := n2_; have HR211 := n3_; have HB := n4_; clear n0_ n1_ n2_ n3_ n4_; (try clear hb); (try clear hb2); (try clear hk); (try clear hi)))
                    go_ret
                    exact ⟨by first | rfl | (simp [errW_none, errW_some] <;> rfl) | (simp only [← hji13]; first | rfl | (simp [errW_none, errW_some] <;> rfl)) | (simp [*, errW_none, errW_some] <;> rfl), by repeat (first | (with_reducible first | exact HB.out | apply below_alloc | apply pw_below_drewN | apply below_drew1) | exact HB.out)⟩
                · replace c23 := Bool.eq_false_iff.mpr c23
                  subst c23
                  have H1 : (some false) = some r := by rw [if_neg (show ¬ (false = true) by decide)] at H; exact H
                  clear H
                  have H := H1
                  clear H1
                  obtain rfl := Option.some.inj H
                  go_enter Try.func13, Try.ntmps13
                  try go_wp2_with (first | ((with_reducible refine gate_callee (f := 32) rfl ?_); refine goesL_ (some 16) rfl rfl Try.func32 (by kernel_rfl) rfl #[.int .i64 a0, .slice A1 l1.length c1] rfl (by (try simp only [List.map_toArray, List.map_cons, List.map_nil]); first | done | rfl | (simp only [List.length_drop, List.length_take]; rfl)) ?_; (with_reducible refine (loop_Of.calls k a0 _ _ l1 t194 _ ?side1 ?side2 A7.out).mono ?_); (case side1 => repeat (first | exact HR1.out | (with_reducible refine Kd.C_alloc ?_ _) | (with_reducible refine Kd.C_drewN ?_ _) | (with_reducible refine Kd.C_drew ?_))); (case side2 => exact HC1.out); rintro e w87 ⟨v195, rfl, ho0, hb⟩; refine ⟨_, rfl, ?_⟩; have n0_ := Aside0.mk (Kd.R_lower ho0 (below_size (by repeat (first | (with_reducible first | exact HB.out | apply below_alloc | apply pw_below_drewN | apply below_drew1) | exact HB.out)))); have n1_ := Aside0.mk (below_step (by repeat (first | (with_reducible first | exact HB.out | apply below_alloc | apply pw_below_drewN | apply below_drew1) | exact HB.out)) hb); clear HB; have HO196 := n0_; have HB := n1_; clear n0_ n1_; (try clear hb); (try clear hb2); (try clear hk); (try clear hi); (try clear ho0); obtain ⟨Ao88, co88, eo88⟩ := Kd.R_slice HO196.out; subst eo88))
                  (try (rw [drewN_self w87]; generalize hq_ : World.drewN w87 _ = w87; have n0_ : Aside0 (Kd.R k48 48 w87 w.heap.size (fun _ => True) (.slice Ao88 t194.length co88) t194) := ⟨by rw [← hq_]; exact (by (with_reducible repeat (first | apply Kd.R_alloc | apply Kd.R_drewN | apply Kd.R_drew)); exact HO196.out)⟩; have n1_ : Aside0 (Below w.heap.size w w87) := ⟨by rw [← hq_]; exact (by repeat (first | (with_reducible first | exact HB.out | apply below_alloc | apply pw_below_drewN | apply below_drew1) | exact HB.out))⟩; clear HO196 HB hq_; have HO196 := n0_; have HB := n1_; clear n0_ n1_))
                  have n0_ := Aside0.mk (Kd.R_drew HO196.out)
                  have n1_ := Aside0.mk (below_drew1 HB.out)
                  clear HO196
                  clear HB
                  have HO196 := n0_
                  have HB := n1_
                  clear n0_ n1_
                  have q90 : ((ji13) : Int) ≤ ((t194.length : Int) : Int) := of_decide_eq_true (by first | (with_reducible assumption) | assumption)
                  obtain ⟨i090, hi090, _, hsz90, _⟩ := info_parts info48
                  have hroom90 : t194.length ≤ co88 := (Kd.R_reads' HO196.out).2.1
                  have hC90 : Kd.C k48 _ Ao88 t194.length t194 := (Kd.R_reads' HO196.out).2.2
                  have q090 : (0 : Int) ≤ ((ji13) : Int) := of_decide_eq_true (by first | (with_reducible assumption) | assumption)
                  have hcut90 := cut_from (P := Try.prog) 22 48 .i64 Try.underlying22 hi090 6 hsz90 Ao88 t194.length co88 (ji13) q090 q90
                  have hr90 := Kd.C_drop (m := ((ji13) : Int).toNat) (c := co88) hC90 (by omega) hroom90
                  obtain ⟨A90, hA90⟩ : ∃ A1, A1 = (if co88 = ((ji13) : Int).toNat then Ao88 else (Ao88 : Option Addr).map (·.add (((ji13) : Int).toNat * 6))) := ⟨_, rfl⟩
                  obtain ⟨c90, hc90⟩ : ∃ c1, c1 = co88 - ((ji13) : Int).toNat := ⟨_, rfl⟩
                  have hy90 : y201.length = t194.length - ((ji13) : Int).toNat := (by rw [Ny201.out, List.length_drop] <;> omega)
                  rw [show (t194).drop ((ji13) : Int).toNat = y201 from Ny201.out.symm] at hr90
                  replace hr90 : Kd.C k48 _ A90 y201.length y201 := (by rw [hA90]; exact hr90)
                  rw [← hy90, ← hA90, ← hc90] at hcut90
                  have HR204 := Aside0.mk hr90
                  have HC204 := Aside0.mk (show y201.length ≤ c90 from by rw [hy90, hc90]; exact Nat.sub_le_sub_right hroom90 _)
                  clear hr90 hC90 hroom90 hi090 hsz90 hc90
                  have KY90 := Aside0.mk hy90
                  have KA90 := Aside0.mk hA90
                  clear hy90 hA90
                  have KL90 := Aside0.mk (show ((ji13) : Int).toNat ≤ t194.length from by omega)
                  replace q90 := eq_true q90
                  have q91 : ((ji13) : Int) ≤ ((t194.length : Int) : Int) := of_decide_eq_true (by first | (with_reducible assumption) | assumption)
                  obtain ⟨i091, hi091, _, hsz91, _⟩ := info_parts info48
                  have hroom91 : t194.length ≤ co88 := (Kd.R_reads' HO196.out).2.1
                  have hC91 : Kd.C k48 _ Ao88 t194.length t194 := (Kd.R_reads' HO196.out).2.2
                  have hcut91 := cut_to (P := Try.prog) 22 48 .i64 Try.underlying22 hi091 Ao88 t194.length co88 (ji13) (of_decide_eq_true (by first | (with_reducible assumption) | assumption)) q91 hroom91
                  have hr91 := Kd.C_take (m := ((ji13) : Int).toNat) hC91 (by omega)
                  have hy91 : y208.length = ((ji13) : Int).toNat := (by rw [Ny208.out, List.length_take]; omega)
                  rw [← Ny208.out] at hr91
                  rw [← hy91] at hcut91
                  have HR211 := Aside0.mk hr91
                  have HC211 := Aside0.mk (show y208.length ≤ co88 from by omega)
                  clear hr91 hC91 hroom91 hi091 hsz91
                  have KY91 := Aside0.mk hy91
                  clear hy91
                  have KL91 := Aside0.mk (show ((ji13) : Int).toNat ≤ t194.length from by omega)
                  replace q91 := eq_true q91
                  refine start_ (n := 10) (S := fun w' => True) (ds := []) #[false, false, false, false, false, false, false, false, false, false] (by kernel_rfl) rfl rfl trivial (fun hHeld => ?_); refine with_tabW merkhetlaw17_CertTurned.tab7 merkhetlaw17_CertTurned.bits7 (fun HT_ HW_ => ?_)
                  generalize w87.drew = w89 at HO196 HB HR204 HR211 hHeld ⊢
                  refine pure_ (i := 1) (N := some 27) (v := ?_) (a' := ?_) #[false, true, false, false, false, false, false, false, false, false] rfl rfl (any_of HT_.out (by kernel_rfl)) (fun _ _ _ h => h) (Or.inl ⟨by rfl, ?_⟩) ?_ ?_
                  rotate_left
                  · intro w'
                    go_simp
                    with_reducible rfl
                  rotate_left
                  · simp only [Act.put, List.setIfInBounds_toArray, List.set_cons_zero, List.set_cons_succ, i64_w, i32_w]
                    rfl
                  refine pure_ (i := 2) (N := some 28) (v := ?_) (a' := ?_) #[false, true, true, false, false, false, false, false, false, false] rfl rfl (any_of HT_.out (by kernel_rfl)) (fun _ _ _ h => h) (Or.inl ⟨by rfl, ?_⟩) ?_ ?_
                  rotate_left
                  · intro w'
                    go_simp
                    with_reducible rfl
                  rotate_left
                  · simp only [Act.put, List.setIfInBounds_toArray, List.set_cons_zero, List.set_cons_succ, i64_w, i32_w]
                    rfl
                  refine pure_ (i := 3) (N := some 29) (v := ?_) (a' := ?_) #[false, true, true, true, false, false, false, false, false, false] rfl rfl (any_of HT_.out (by kernel_rfl)) (fun _ _ _ h => h) (Or.inl ⟨by rfl, ?_⟩) ?_ ?_
                  rotate_left
                  · intro w'
                    go_simp
                    with_reducible rfl
                  rotate_left
                  · simp only [Act.put, List.setIfInBounds_toArray, List.set_cons_zero, List.set_cons_succ, i64_w, i32_w]
                    rfl
                  refine pure_ (i := 5) (N := some 31) (v := ?_) (a' := ?_) #[false, true, true, true, false, true, false, false, false, false] rfl rfl (any_of HT_.out (by kernel_rfl)) (fun _ _ _ h => h) (Or.inl ⟨by rfl, ?_⟩) ?_ ?_
                  rotate_left
                  · intro w'
                    go_simp
                    with_reducible rfl
                  rotate_left
                  · simp only [Act.put, List.setIfInBounds_toArray, List.set_cons_zero, List.set_cons_succ, i64_w, i32_w]
                    rfl
                  refine pure_ (i := 6) (N := some 32) (v := ?_) (a' := ?_) #[false, true, true, true, false, true, true, false, false, false] rfl rfl (any_of HT_.out (by kernel_rfl)) (fun _ _ _ h => h) (Or.inl ⟨by rfl, ?_⟩) ?_ ?_
                  rotate_left
                  · intro w'
                    go_simp
                    with_reducible rfl
                  rotate_left
                  · simp only [Act.put, List.setIfInBounds_toArray, List.set_cons_zero, List.set_cons_succ, i64_w, i32_w]
                    rfl
                  refine pure_ (i := 7) (N := some 33) (v := ?_) (a' := ?_) #[false, true, true, true, false, true, true, true, false, false] rfl rfl (any_of HT_.out (by kernel_rfl)) (fun _ _ _ h => h) (Or.inl ⟨by rfl, ?_⟩) ?_ ?_
                  rotate_left
                  · intro w'
                    go_simp
                    with_reducible rfl
                  rotate_left
                  · simp only [Act.put, List.setIfInBounds_toArray, List.set_cons_zero, List.set_cons_succ, i64_w, i32_w]
                    rfl
                  refine one_ (i := 0) (N := some 26) #[true, true, true, true, false, true, true, true, false, false] rfl rfl (one_of HT_.out (by kernel_rfl)) (by decide) (fun K hK => ?_)
                  refine Kd.R_lit_step k48 _ 48 ?hg (N := 26) ?hd (xs := ([] : List (S48))) (inner := []) (ok := fun _ => True) (okp := fun _ => True) ?hr ?hp (fun _ hk => hk) trivial (Below.refl _ _) (Nat.le_refl _) (by simp) ?_; (case hd => rfl); (case hg => rfl); (case hr => first | (go_simp; done) | (go_simp; rfl)); (case hp => exact (Reps.none _ _))
                  intro v199 w92 ho93 hb hg_ hnew_
                  clear hg_ hnew_
                  (first | rw [← Ny198.out] at ho93 | (simp only [Int.reduceToNat] at ho93; rw [← Ny198.out] at ho93))
                  have n0_ := Aside0.mk (Kd.R_elder' (by (with_reducible repeat (first | apply Kd.R_alloc | apply Kd.R_drewN | apply Kd.R_drew)); exact HO196.out) (Kd.R_base ho93) hb)
                  have n1_ := Aside0.mk (Kd.R_lower (Kd.R_new' ho93 (Kd.R_lt (by (with_reducible repeat (first | apply Kd.R_alloc | apply Kd.R_drewN | apply Kd.R_drew)); exact HO196.out))) (below_size (by repeat (first | (with_reducible first | exact HB.out | apply below_alloc | apply pw_below_drewN | apply below_drew1) | exact HB.out))))
                  have n2_ := Aside0.mk (Kd.C_below (by repeat (first | (with_reducible exact HR204.out) | (with_reducible refine Kd.C_alloc ?_ _) | (with_reducible refine Kd.C_drewN ?_ _) | (with_reducible refine Kd.C_drew ?_) | exact HR204.out)) hb)
                  have n3_ := Aside0.mk (Kd.C_below (by repeat (first | (with_reducible exact HR211.out) | (with_reducible refine Kd.C_alloc ?_ _) | (with_reducible refine Kd.C_drewN ?_ _) | (with_reducible refine Kd.C_drew ?_) | exact HR211.out)) hb)
                  have n4_ := Aside0.mk (below_step (by repeat (first | (with_reducible first | exact HB.out | apply below_alloc | apply pw_below_drewN | apply below_drew1) | exact HB.out)) hb)
                  clear HO196
                  clear HR204
                  clear HR211
                  clear HB
                  have HO196 := n0_
                  have HO200 := n1_
                  have HR204 := n2_
                  have HR211 := n3_
                  have HB := n4_
                  clear n0_ n1_ n2_ n3_ n4_
                  clear hb ho93
                  refine hK.out _ _ trivial (fun hHeld => ?_)
                  clear hK K
                  refine norm_ (a' := ?_) ?_ ?_
                  rotate_left
                  · show Act.put _ (some 26) _ = _
                    simp only [Act.put, List.setIfInBounds_toArray, List.set_cons_zero, List.set_cons_succ, i64_w, i32_w]
                    rfl
                  refine one_ (i := 4) (N := some 30) #[true, true, true, true, true, true, true, true, false, false] rfl rfl (one_of HT_.out (by kernel_rfl)) (by decide) (fun K hK => ?_)
                  refine Kd.R_append_rows_step k48 (w0 := w) w.heap.size (by rfl) (.tmp 26) (.tmp 29) 22 48 (.agg #[(.int .i64 0), (.int .i64 0), (.int .i64 0), (.int .i64 0), (.int .i64 0), (.bool false)]) 48 rfl Try.underlying22 info48 rfl (by decide) (by omega) v199 y198 y201 _ _ _ (fun k_ => some k_ ≠ (.slice Ao88 t194.length co88 : Value).ownBlock) (fun _ => False) rfl rfl ?aO ?aR (fun _ _ h => h) (fun _ h => h.elim) ?aF ?aB ?aS ?aL ?_
                  (case aR => repeat (first | exact (by repeat (first | (with_reducible exact HR204.out) | (with_reducible refine Kd.C_alloc ?_ _) | (with_reducible refine Kd.C_drewN ?_ _) | (with_reducible refine Kd.C_drew ?_) | exact HR204.out)) | (with_reducible refine Kd.C_alloc ?_ _) | (with_reducible refine Kd.C_drewN ?_ _) | (with_reducible refine Kd.C_drew ?_)))
                  (case aB => exact (by repeat (first | (with_reducible first | exact HB.out | apply below_alloc | apply pw_below_drewN | apply below_drew1) | exact HB.out)))
                  (case aF => exact (fun k_ hk => Kd.fresh' (Kd.R_lt (by (with_reducible repeat (first | apply Kd.R_alloc | apply Kd.R_drewN | apply Kd.R_drew)); exact HO196.out)) k_ hk))
                  (case aO => exact (by (with_reducible repeat (first | apply Kd.R_alloc | apply Kd.R_drewN | apply Kd.R_drew)); exact Kd.R_mono HO200.out (fun _ hk => hk.2)))
                  (case aS => exact (below_size (by repeat (first | (with_reducible first | exact HB.out | apply below_alloc | apply pw_below_drewN | apply below_drew1) | exact HB.out))))
                  (case aL => have := LMc16.out; omega)
                  intro v206 w94 ho hb hg hat
                  rw [← Ny205.out] at ho
                  have n0_ := Aside0.mk (Kd.R_after (ok := (fun _ => True)) (by (with_reducible repeat (first | apply Kd.R_alloc | apply Kd.R_drewN | apply Kd.R_drew)); exact HO196.out) hg hat)
                  have n1_ := Aside0.mk (hb)
                  have n2_ := Aside0.mk ((show Kd.C k48 w94 A90 y201.length y201 from by rw [Ny201.out, KA90.out]; exact Kd.C_drop (m := ((ji13) : Int).toNat) (c := co88) ((Kd.R_reads' (Kd.R_after (ok := (fun _ => True)) (by (with_reducible repeat (first | apply Kd.R_alloc | apply Kd.R_drewN | apply Kd.R_drew)); exact HO196.out) hg hat)).2.2) KL90.out ((Kd.R_reads' (Kd.R_after (ok := (fun _ => True)) (by (with_reducible repeat (first | apply Kd.R_alloc | apply Kd.R_drewN | apply Kd.R_drew)); exact HO196.out) hg hat)).2.1)))
                  have n3_ := Aside0.mk ((show Kd.C k48 w94 Ao88 y208.length y208 from by rw [Ny208.out]; exact Kd.C_take (m := ((ji13) : Int).toNat) ((Kd.R_reads' (Kd.R_after (ok := (fun _ => True)) (by (with_reducible repeat (first | apply Kd.R_alloc | apply Kd.R_drewN | apply Kd.R_drew)); exact HO196.out) hg hat)).2.2) KL91.out))
                  have n4_ := Aside0.mk (ho)
                  clear HO196
                  clear HB
                  clear HR204
                  clear HR211
                  clear HO200
                  have HO196 := n0_
                  have HB := n1_
                  have HR204 := n2_
                  have HR211 := n3_
                  have HO207 := n4_
                  clear n0_ n1_ n2_ n3_ n4_
                  clear ho hb hg hat
                  refine hK.out _ _ trivial (fun hHeld => ?_)
                  clear hK K
                  refine norm_ (a' := ?_) ?_ ?_
                  rotate_left
                  · show Act.put _ (some 30) _ = _
                    simp only [Act.put, List.setIfInBounds_toArray, List.set_cons_zero, List.set_cons_succ, i64_w, i32_w]
                    rfl
                  refine one_ (i := 8) (N := some 34) #[true, true, true, true, true, true, true, true, true, false] rfl rfl (one_of HT_.out (by kernel_rfl)) (by decide) (fun K hK => ?_)
                  refine Kd.R_append_rows_step k48 (w0 := w) w.heap.size (by rfl) (.tmp 30) (.tmp 33) 22 48 (.agg #[(.int .i64 0), (.int .i64 0), (.int .i64 0), (.int .i64 0), (.int .i64 0), (.bool false)]) 48 rfl Try.underlying22 info48 rfl (by decide) (by omega) v206 y205 y208 _ _ _ (fun k_ => some k_ ≠ (.slice Ao88 t194.length co88 : Value).ownBlock) (fun _ => False) rfl rfl ?aO ?aR (fun _ _ h => h) (fun _ h => h.elim) ?aF ?aB ?aS ?aL ?_
                  (case aR => repeat (first | exact (by repeat (first | (with_reducible exact HR211.out) | (with_reducible refine Kd.C_alloc ?_ _) | (with_reducible refine Kd.C_drewN ?_ _) | (with_reducible refine Kd.C_drew ?_) | exact HR211.out)) | (with_reducible refine Kd.C_alloc ?_ _) | (with_reducible refine Kd.C_drewN ?_ _) | (with_reducible refine Kd.C_drew ?_)))
                  (case aB => exact (by repeat (first | (with_reducible first | exact HB.out | apply below_alloc | apply pw_below_drewN | apply below_drew1) | exact HB.out)))
                  (case aF => exact (fun k_ hk => Kd.fresh' (Kd.R_lt (by (with_reducible repeat (first | apply Kd.R_alloc | apply Kd.R_drewN | apply Kd.R_drew)); exact HO196.out)) k_ hk))
                  (case aO => exact (by (with_reducible repeat (first | apply Kd.R_alloc | apply Kd.R_drewN | apply Kd.R_drew)); exact HO207.out))
                  (case aS => exact (below_size (by repeat (first | (with_reducible first | exact HB.out | apply below_alloc | apply pw_below_drewN | apply below_drew1) | exact HB.out))))
                  (case aL => have := LMc19.out; omega)
                  intro v213 w95 ho hb hg hat
                  rw [← Ny212.out] at ho
                  have n0_ := Aside0.mk (Kd.R_after (ok := (fun _ => True)) (by (with_reducible repeat (first | apply Kd.R_alloc | apply Kd.R_drewN | apply Kd.R_drew)); exact HO196.out) hg hat)
                  have n1_ := Aside0.mk (hb)
                  have n2_ := Aside0.mk ((show Kd.C k48 w95 A90 y201.length y201 from by rw [Ny201.out, KA90.out]; exact Kd.C_drop (m := ((ji13) : Int).toNat) (c := co88) ((Kd.R_reads' (Kd.R_after (ok := (fun _ => True)) (by (with_reducible repeat (first | apply Kd.R_alloc | apply Kd.R_drewN | apply Kd.R_drew)); exact HO196.out) hg hat)).2.2) KL90.out ((Kd.R_reads' (Kd.R_after (ok := (fun _ => True)) (by (with_reducible repeat (first | apply Kd.R_alloc | apply Kd.R_drewN | apply Kd.R_drew)); exact HO196.out) hg hat)).2.1)))
                  have n3_ := Aside0.mk ((show Kd.C k48 w95 Ao88 y208.length y208 from by rw [Ny208.out]; exact Kd.C_take (m := ((ji13) : Int).toNat) ((Kd.R_reads' (Kd.R_after (ok := (fun _ => True)) (by (with_reducible repeat (first | apply Kd.R_alloc | apply Kd.R_drewN | apply Kd.R_drew)); exact HO196.out) hg hat)).2.2) KL91.out))
                  have n4_ := Aside0.mk (ho)
                  clear HO196
                  clear HB
                  clear HR204
                  clear HR211
                  clear HO207
                  have HO196 := n0_
                  have HB := n1_
                  have HR204 := n2_
                  have HR211 := n3_
                  have HO214 := n4_
                  clear n0_ n1_ n2_ n3_ n4_
                  clear ho hb hg hat
                  refine hK.out _ _ trivial (fun hHeld => ?_)
                  clear hK K
                  refine norm_ (a' := ?_) ?_ ?_
                  rotate_left
                  · show Act.put _ (some 34) _ = _
                    simp only [Act.put, List.setIfInBounds_toArray, List.set_cons_zero, List.set_cons_succ, i64_w, i32_w]
                    rfl
                  refine pure_ (i := 9) (N := some 9) (v := ?_) (a' := ?_) #[true, true, true, true, true, true, true, true, true, true] rfl rfl (any_of HT_.out (by kernel_rfl)) (fun _ _ _ h => h) (Or.inl ⟨by rfl, ?_⟩) ?_ ?_
                  rotate_left
                  · intro w'
                    go_simp
                    with_reducible rfl
                  rotate_left
                  · simp only [Act.put, List.setIfInBounds_toArray, List.set_cons_zero, List.set_cons_succ, i64_w, i32_w]
                    rfl
                  refine done_ (done_of HT_.out (by kernel_rfl)) ?_
                  try go_wp2_with (first | ((with_reducible refine gate_callee (f := 15) rfl ?_); refine goesL_ (some 35) rfl rfl Try.func15 (by kernel_rfl) rfl #[] rfl (by (try simp only [List.map_toArray, List.map_cons, List.map_nil]); first | done | rfl | (simp only [List.length_drop, List.length_take]; rfl)) ?_; (with_reducible refine (merkhetlaw17_fixed.calls k  true _ A20.out).mono ?_); rintro e w96 ⟨rfl, hb⟩; refine ⟨_, rfl, ?_⟩; have n0_ := Aside0.mk (Kd.R_below (by (with_reducible repeat (first | apply Kd.R_alloc | apply Kd.R_drewN | apply Kd.R_drew)); exact HO196.out) hb); have n1_ := Aside0.mk (Kd.R_below (by (with_reducible repeat (first | apply Kd.R_alloc | apply Kd.R_drewN | apply Kd.R_drew)); exact HO214.out) hb); have n2_ := Aside0.mk (Kd.C_below (by repeat (first | (with_reducible exact HR204.out) | (with_reducible refine Kd.C_alloc ?_ _) | (with_reducible refine Kd.C_drewN ?_ _) | (with_reducible refine Kd.C_drew ?_) | exact HR204.out)) hb); have n3_ := Aside0.mk (Kd.C_below (by repeat (first | (with_reducible exact HR211.out) | (with_reducible refine Kd.C_alloc ?_ _) | (with_reducible refine Kd.C_drewN ?_ _) | (with_reducible refine Kd.C_drew ?_) | exact HR211.out)) hb); have n4_ := Aside0.mk (below_step (by repeat (first | (with_reducible first | exact HB.out | apply below_alloc | apply pw_below_drewN | apply below_drew1) | exact HB.out)) hb); clear HO196; clear HO214; clear HR204; clear HR211; clear HB; have HO196 := n0_; have HO214 := n1_; have HR204 := n2_; have HR211 := n3_; have HB := n4_; clear n0_ n1_ n2_ n3_ n4_; (try clear hb); (try clear hb2); (try clear hk); (try clear hi)) | (go_at_call 18; (with_reducible refine (cert_Chain.calls k a0 _ _ l1 _ _ t194 false _ ?side1 ?side2 ?side3 ?side4 A22.out).mono ?_); (case side1 => repeat (first | exact (Kd.C_below HR1.out HB.out) | (with_reducible refine Kd.C_alloc ?_ _) | (with_reducible refine Kd.C_drewN ?_ _) | (with_reducible refine Kd.C_drew ?_))); (case side2 => exact HC1.out); (case side3 => repeat (first | exact (Kd.R_reads' HO196.out).2.2 | (with_reducible refine Kd.C_alloc ?_ _) | (with_reducible refine Kd.C_drewN ?_ _) | (with_reducible refine Kd.C_drew ?_))); (case side4 => exact (Kd.R_reads' HO196.out).2.1); rintro e w97 ⟨rfl, hb⟩; have n0_ := Aside0.mk (Kd.R_below (by (with_reducible repeat (first | apply Kd.R_alloc | apply Kd.R_drewN | apply Kd.R_drew)); exact HO196.out) hb); have n1_ := Aside0.mk (Kd.R_below (by (with_reducible repeat (first | apply Kd.R_alloc | apply Kd.R_drewN | apply Kd.R_drew)); exact HO214.out) hb); have n2_ := Aside0.mk (Kd.C_below (by repeat (first | (with_reducible exact HR204.out) | (with_reducible refine Kd.C_alloc ?_ _) | (with_reducible refine Kd.C_drewN ?_ _) | (with_reducible refine Kd.C_drew ?_) | exact HR204.out)) hb); have n3_ := Aside0.mk (Kd.C_below (by repeat (first | (with_reducible exact HR211.out) | (with_reducible refine Kd.C_alloc ?_ _) | (with_reducible refine Kd.C_drewN ?_ _) | (with_reducible refine Kd.C_drew ?_) | exact HR211.out)) hb); have n4_ := Aside0.mk (below_step (by repeat (first | (with_reducible first | exact HB.out | apply below_alloc | apply pw_below_drewN | apply below_drew1) | exact HB.out)) hb); clear HO196; clear HO214; clear HR204; clear HR211; clear HB; have HO196 := n0_; have HO214 := n1_; have HR204 := n2_; have HR211 := n3_; have HB := n4_; clear n0_ n1_ n2_ n3_ n4_; (try clear hb); (try clear hb2); (try clear hk); (try clear hi)))
                  go_ret
                  exact ⟨by first | rfl | (simp [errW_none, errW_some] <;> rfl) | (simp only [← hji13]; first | rfl | (simp [errW_none, errW_some] <;> rfl)) | (simp [*, errW_none, errW_some] <;> rfl), by repeat (first | (with_reducible first | exact HB.out | apply below_alloc | apply pw_below_drewN | apply below_drew1) | exact HB.out)⟩
              · replace c21 := Bool.eq_false_iff.mpr c21
                subst c21
                have H1 : (some false) = some r := by rw [if_neg (show ¬ (false = true) by decide)] at H; exact H
                clear H
                have H := H1
                clear H1
                obtain rfl := Option.some.inj H
                go_enter Try.func13, Try.ntmps13
                try go_wp2_with (first | ((with_reducible refine gate_callee (f := 32) rfl ?_); refine goesL_ (some 16) rfl rfl Try.func32 (by kernel_rfl) rfl #[.int .i64 a0, .slice A1 l1.length c1] rfl (by (try simp only [List.map_toArray, List.map_cons, List.map_nil]); first | done | rfl | (simp only [List.length_drop, List.length_take]; rfl)) ?_; (with_reducible refine (loop_Of.calls k a0 _ _ l1 t194 _ ?side1 ?side2 A7.out).mono ?_); (case side1 => repeat (first | exact HR1.out | (with_reducible refine Kd.C_alloc ?_ _) | (with_reducible refine Kd.C_drewN ?_ _) | (with_reducible refine Kd.C_drew ?_))); (case side2 => exact HC1.out); rintro e w98 ⟨v195, rfl, ho0, hb⟩; refine ⟨_, rfl, ?_⟩; have n0_ := Aside0.mk (Kd.R_lower ho0 (below_size (by repeat (first | (with_reducible first | exact HB.out | apply below_alloc | apply pw_below_drewN | apply below_drew1) | exact HB.out)))); have n1_ := Aside0.mk (below_step (by repeat (first | (with_reducible first | exact HB.out | apply below_alloc | apply pw_below_drewN | apply below_drew1) | exact HB.out)) hb); clear HB; have HO196 := n0_; have HB := n1_; clear n0_ n1_; (try clear hb); (try clear hb2); (try clear hk); (try clear hi); (try clear ho0); obtain ⟨Ao99, co99, eo99⟩ := Kd.R_slice HO196.out; subst eo99))
                (try (rw [drewN_self w98]; generalize hq_ : World.drewN w98 _ = w98; have n0_ : Aside0 (Kd.R k48 48 w98 w.heap.size (fun _ => True) (.slice Ao99 t194.length co99) t194) := ⟨by rw [← hq_]; exact (by (with_reducible repeat (first | apply Kd.R_alloc | apply Kd.R_drewN | apply Kd.R_drew)); exact HO196.out)⟩; have n1_ : Aside0 (Below w.heap.size w w98) := ⟨by rw [← hq_]; exact (by repeat (first | (with_reducible first | exact HB.out | apply below_alloc | apply pw_below_drewN | apply below_drew1) | exact HB.out))⟩; clear HO196 HB hq_; have HO196 := n0_; have HB := n1_; clear n0_ n1_))
                have n0_ := Aside0.mk (Kd.R_drew HO196.out)
                have n1_ := Aside0.mk (below_drew1 HB.out)
                clear HO196
                clear HB
                have HO196 := n0_
                have HB := n1_
                clear n0_ n1_
                have q101 : ((ji13) : Int) ≤ ((t194.length : Int) : Int) := of_decide_eq_true (by first | (with_reducible assumption) | assumption)
                obtain ⟨i0101, hi0101, _, hsz101, _⟩ := info_parts info48
                have hroom101 : t194.length ≤ co99 := (Kd.R_reads' HO196.out).2.1
                have hC101 : Kd.C k48 _ Ao99 t194.length t194 := (Kd.R_reads' HO196.out).2.2
                have q0101 : (0 : Int) ≤ ((ji13) : Int) := of_decide_eq_true (by first | (with_reducible assumption) | assumption)
                have hcut101 := cut_from (P := Try.prog) 22 48 .i64 Try.underlying22 hi0101 6 hsz101 Ao99 t194.length co99 (ji13) q0101 q101
                have hr101 := Kd.C_drop (m := ((ji13) : Int).toNat) (c := co99) hC101 (by omega) hroom101
                obtain ⟨A101, hA101⟩ : ∃ A1, A1 = (if co99 = ((ji13) : Int).toNat then Ao99 else (Ao99 : Option Addr).map (·.add (((ji13) : Int).toNat * 6))) := ⟨_, rfl⟩
                obtain ⟨c101, hc101⟩ : ∃ c1, c1 = co99 - ((ji13) : Int).toNat := ⟨_, rfl⟩
                have hy101 : y201.length = t194.length - ((ji13) : Int).toNat := (by rw [Ny201.out, List.length_drop] <;> omega)
                rw [show (t194).drop ((ji13) : Int).toNat = y201 from Ny201.out.symm] at hr101
                replace hr101 : Kd.C k48 _ A101 y201.length y201 := (by rw [hA101]; exact hr101)
                rw [← hy101, ← hA101, ← hc101] at hcut101
                have HR204 := Aside0.mk hr101
                have HC204 := Aside0.mk (show y201.length ≤ c101 from by rw [hy101, hc101]; exact Nat.sub_le_sub_right hroom101 _)
                clear hr101 hC101 hroom101 hi0101 hsz101 hc101
                have KY101 := Aside0.mk hy101
                have KA101 := Aside0.mk hA101
                clear hy101 hA101
                have KL101 := Aside0.mk (show ((ji13) : Int).toNat ≤ t194.length from by omega)
                replace q101 := eq_true q101
                have q102 : ((ji13) : Int) ≤ ((t194.length : Int) : Int) := of_decide_eq_true (by first | (with_reducible assumption) | assumption)
                obtain ⟨i0102, hi0102, _, hsz102, _⟩ := info_parts info48
                have hroom102 : t194.length ≤ co99 := (Kd.R_reads' HO196.out).2.1
                have hC102 : Kd.C k48 _ Ao99 t194.length t194 := (Kd.R_reads' HO196.out).2.2
                have hcut102 := cut_to (P := Try.prog) 22 48 .i64 Try.underlying22 hi0102 Ao99 t194.length co99 (ji13) (of_decide_eq_true (by first | (with_reducible assumption) | assumption)) q102 hroom102
                have hr102 := Kd.C_take (m := ((ji13) : Int).toNat) hC102 (by omega)
                have hy102 : y208.length = ((ji13) : Int).toNat := (by rw [Ny208.out, List.length_take]; omega)
                rw [← Ny208.out] at hr102
                rw [← hy102] at hcut102
                have HR211 := Aside0.mk hr102
                have HC211 := Aside0.mk (show y208.length ≤ co99 from by omega)
                clear hr102 hC102 hroom102 hi0102 hsz102
                have KY102 := Aside0.mk hy102
                clear hy102
                have KL102 := Aside0.mk (show ((ji13) : Int).toNat ≤ t194.length from by omega)
                replace q102 := eq_true q102
                refine start_ (n := 10) (S := fun w' => True) (ds := []) #[false, false, false, false, false, false, false, false, false, false] (by kernel_rfl) rfl rfl trivial (fun hHeld => ?_); refine with_tabW merkhetlaw17_CertTurned.tab7 merkhetlaw17_CertTurned.bits7 (fun HT_ HW_ => ?_)
                generalize w98.drew = w100 at HO196 HB HR204 HR211 hHeld ⊢
                refine pure_ (i := 1) (N := some 27) (v := ?_) (a' := ?_) #[false, true, false, false, false, false, false, false, false, false] rfl rfl (any_of HT_.out (by kernel_rfl)) (fun _ _ _ h => h) (Or.inl ⟨by rfl, ?_⟩) ?_ ?_
                rotate_left
                · intro w'
                  go_simp
                  with_reducible rfl
                rotate_left
                · simp only [Act.put, List.setIfInBounds_toArray, List.set_cons_zero, List.set_cons_succ, i64_w, i32_w]
                  rfl
                refine pure_ (i := 2) (N := some 28) (v := ?_) (a' := ?_) #[false, true, true, false, false, false, false, false, false, false] rfl rfl (any_of HT_.out (by kernel_rfl)) (fun _ _ _ h => h) (Or.inl ⟨by rfl, ?_⟩) ?_ ?_
                rotate_left
                · intro w'
                  go_simp
                  with_reducible rfl
                rotate_left
                · simp only [Act.put, List.setIfInBounds_toArray, List.set_cons_zero, List.set_cons_succ, i64_w, i32_w]
                  rfl
                refine pure_ (i := 3) (N := some 29) (v := ?_) (a' := ?_) #[false, true, true, true, false, false, false, false, false, false] rfl rfl (any_of HT_.out (by kernel_rfl)) (fun _ _ _ h => h) (Or.inl ⟨by rfl, ?_⟩) ?_ ?_
                rotate_left
                · intro w'
                  go_simp
                  with_reducible rfl
                rotate_left
                · simp only [Act.put, List.setIfInBounds_toArray, List.set_cons_zero, List.set_cons_succ, i64_w, i32_w]
                  rfl
                refine pure_ (i := 5) (N := some 31) (v := ?_) (a' := ?_) #[false, true, true, true, false, true, false, false, false, false] rfl rfl (any_of HT_.out (by kernel_rfl)) (fun _ _ _ h => h) (Or.inl ⟨by rfl, ?_⟩) ?_ ?_
                rotate_left
                · intro w'
                  go_simp
                  with_reducible rfl
                rotate_left
                · simp only [Act.put, List.setIfInBounds_toArray, List.set_cons_zero, List.set_cons_succ, i64_w, i32_w]
                  rfl
                refine pure_ (i := 6) (N := some 32) (v := ?_) (a' := ?_) #[false, true, true, true, false, true, true, false, false, false] rfl rfl (any_of HT_.out (by kernel_rfl)) (fun _ _ _ h => h) (Or.inl ⟨by rfl, ?_⟩) ?_ ?_
                rotate_left
                · intro w'
                  go_simp
                  with_reducible rfl
                rotate_left
                · simp only [Act.put, List.setIfInBounds_toArray, List.set_cons_zero, List.set_cons_succ, i64_w, i32_w]
                  rfl
                refine pure_ (i := 7) (N := some 33) (v := ?_) (a' := ?_) #[false, true, true, true, false, true, true, true, false, false] rfl rfl (any_of HT_.out (by kernel_rfl)) (fun _ _ _ h => h) (Or.inl ⟨by rfl, ?_⟩) ?_ ?_
                rotate_left
                · intro w'
                  go_simp
                  with_reducible rfl
                rotate_left
                · simp only [Act.put, List.setIfInBounds_toArray, List.set_cons_zero, List.set_cons_succ, i64_w, i32_w]
                  rfl
                refine one_ (i := 0) (N := some 26) #[true, true, true, true, false, true, true, true, false, false] rfl rfl (one_of HT_.out (by kernel_rfl)) (by decide) (fun K hK => ?_)
                refine Kd.R_lit_step k48 _ 48 ?hg (N := 26) ?hd (xs := ([] : List (S48))) (inner := []) (ok := fun _ => True) (okp := fun _ => True) ?hr ?hp (fun _ hk => hk) trivial (Below.refl _ _) (Nat.le_refl _) (by simp) ?_; (case hd => rfl); (case hg => rfl); (case hr => first | (go_simp; done) | (go_simp; rfl)); (case hp => exact (Reps.none _ _))
                intro v199 w103 ho104 hb hg_ hnew_
                clear hg_ hnew_
                (first | rw [← Ny198.out] at ho104 | (simp only [Int.reduceToNat] at ho104; rw [← Ny198.out] at ho104))
                have n0_ := Aside0.mk (Kd.R_elder' (by (with_reducible repeat (first | apply Kd.R_alloc | apply Kd.R_drewN | apply Kd.R_drew)); exact HO196.out) (Kd.R_base ho104) hb)
                have n1_ := Aside0.mk (Kd.R_lower (Kd.R_new' ho104 (Kd.R_lt (by (with_reducible repeat (first | apply Kd.R_alloc | apply Kd.R_drewN | apply Kd.R_drew)); exact HO196.out))) (below_size (by repeat (first | (with_reducible first | exact HB.out | apply below_alloc | apply pw_below_drewN | apply below_drew1) | exact HB.out))))
                have n2_ := Aside0.mk (Kd.C_below (by repeat (first | (with_reducible exact HR204.out) | (with_reducible refine Kd.C_alloc ?_ _) | (with_reducible refine Kd.C_drewN ?_ _) | (with_reducible refine Kd.C_drew ?_) | exact HR204.out)) hb)
                have n3_ := Aside0.mk (Kd.C_below (by repeat (first | (with_reducible exact HR211.out) | (with_reducible refine Kd.C_alloc ?_ _) | (with_reducible refine Kd.C_drewN ?_ _) | (with_reducible refine Kd.C_drew ?_) | exact HR211.out)) hb)
                have n4_ := Aside0.mk (below_step (by repeat (first | (with_reducible first | exact HB.out | apply below_alloc | apply pw_below_drewN | apply below_drew1) | exact HB.out)) hb)
                clear HO196
                clear HR204
                clear HR211
                clear HB
                have HO196 := n0_
                have HO200 := n1_
                have HR204 := n2_
                have HR211 := n3_
                have HB := n4_
                clear n0_ n1_ n2_ n3_ n4_
                clear hb ho104
                refine hK.out _ _ trivial (fun hHeld => ?_)
                clear hK K
                refine norm_ (a' := ?_) ?_ ?_
                rotate_left
                · show Act.put _ (some 26) _ = _
                  simp only [Act.put, List.setIfInBounds_toArray, List.set_cons_zero, List.set_cons_succ, i64_w, i32_w]
                  rfl
                refine one_ (i := 4) (N := some 30) #[true, true, true, true, true, true, true, true, false, false] rfl rfl (one_of HT_.out (by kernel_rfl)) (by decide) (fun K hK => ?_)
                refine Kd.R_append_rows_step k48 (w0 := w) w.heap.size (by rfl) (.tmp 26) (.tmp 29) 22 48 (.agg #[(.int .i64 0), (.int .i64 0), (.int .i64 0), (.int .i64 0), (.int .i64 0), (.bool false)]) 48 rfl Try.underlying22 info48 rfl (by decide) (by omega) v199 y198 y201 _ _ _ (fun k_ => some k_ ≠ (.slice Ao99 t194.length co99 : Value).ownBlock) (fun _ => False) rfl rfl ?aO ?aR (fun _ _ h => h) (fun _ h => h.elim) ?aF ?aB ?aS ?aL ?_
                (case aR => repeat (first | exact (by repeat (first | (with_reducible exact HR204.out) | (with_reducible refine Kd.C_alloc ?_ _) | (with_reducible refine Kd.C_drewN ?_ _) | (with_reducible refine Kd.C_drew ?_) | exact HR204.out)) | (with_reducible refine Kd.C_alloc ?_ _) | (with_reducible refine Kd.C_drewN ?_ _) | (with_reducible refine Kd.C_drew ?_)))
                (case aB => exact (by repeat (first | (with_reducible first | exact HB.out | apply below_alloc | apply pw_below_drewN | apply below_drew1) | exact HB.out)))
                (case aF => exact (fun k_ hk => Kd.fresh' (Kd.R_lt (by (with_reducible repeat (first | apply Kd.R_alloc | apply Kd.R_drewN | apply Kd.R_drew)); exact HO196.out)) k_ hk))
                (case aO => exact (by (with_reducible repeat (first | apply Kd.R_alloc | apply Kd.R_drewN | apply Kd.R_drew)); exact Kd.R_mono HO200.out (fun _ hk => hk.2)))
                (case aS => exact (below_size (by repeat (first | (with_reducible first | exact HB.out | apply below_alloc | apply pw_below_drewN | apply below_drew1) | exact HB.out))))
                (case aL => have := LMc16.out; omega)
                intro v206 w105 ho hb hg hat
                rw [← Ny205.out] at ho
                have n0_ := Aside0.mk (Kd.R_after (ok := (fun _ => True)) (by (with_reducible repeat (first | apply Kd.R_alloc | apply Kd.R_drewN | apply Kd.R_drew)); exact HO196.out) hg hat)
                have n1_ := Aside0.mk (hb)
                have n2_ := Aside0.mk ((show Kd.C k48 w105 A101 y201.length y201 from by rw [Ny201.out, KA101.out]; exact Kd.C_drop (m := ((ji13) : Int).toNat) (c := co99) ((Kd.R_reads' (Kd.R_after (ok := (fun _ => True)) (by (with_reducible repeat (first | apply Kd.R_alloc | apply Kd.R_drewN | apply Kd.R_drew)); exact HO196.out) hg hat)).2.2) KL101.out ((Kd.R_reads' (Kd.R_after (ok := (fun _ => True)) (by (with_reducible repeat (first | apply Kd.R_alloc | apply Kd.R_drewN | apply Kd.R_drew)); exact HO196.out) hg hat)).2.1)))
                have n3_ := Aside0.mk ((show Kd.C k48 w105 Ao99 y208.length y208 from by rw [Ny208.out]; exact Kd.C_take (m := ((ji13) : Int).toNat) ((Kd.R_reads' (Kd.R_after (ok := (fun _ => True)) (by (with_reducible repeat (first | apply Kd.R_alloc | apply Kd.R_drewN | apply Kd.R_drew)); exact HO196.out) hg hat)).2.2) KL102.out))
                have n4_ := Aside0.mk (ho)
                clear HO196
                clear HB
                clear HR204
                clear HR211
                clear HO200
                have HO196 := n0_
                have HB := n1_
                have HR204 := n2_
                have HR211 := n3_
                have HO207 := n4_
                clear n0_ n1_ n2_ n3_ n4_
                clear ho hb hg hat
                refine hK.out _ _ trivial (fun hHeld => ?_)
                clear hK K
                refine norm_ (a' := ?_) ?_ ?_
                rotate_left
                · show Act.put _ (some 30) _ = _
                  simp only [Act.put, List.setIfInBounds_toArray, List.set_cons_zero, List.set_cons_succ, i64_w, i32_w]
                  rfl
                refine one_ (i := 8) (N := some 34) #[true, true, true, true, true, true, true, true, true, false] rfl rfl (one_of HT_.out (by kernel_rfl)) (by decide) (fun K hK => ?_)
                refine Kd.R_append_rows_step k48 (w0 := w) w.heap.size (by rfl) (.tmp 30) (.tmp 33) 22 48 (.agg #[(.int .i64 0), (.int .i64 0), (.int .i64 0), (.int .i64 0), (.int .i64 0), (.bool false)]) 48 rfl Try.underlying22 info48 rfl (by decide) (by omega) v206 y205 y208 _ _ _ (fun k_ => some k_ ≠ (.slice Ao99 t194.length co99 : Value).ownBlock) (fun _ => False) rfl rfl ?aO ?aR (fun _ _ h => h) (fun _ h => h.elim) ?aF ?aB ?aS ?aL ?_
                (case aR => repeat (first | exact (by repeat (first | (with_reducible exact HR211.out) | (with_reducible refine Kd.C_alloc ?_ _) | (with_reducible refine Kd.C_drewN ?_ _) | (with_reducible refine Kd.C_drew ?_) | exact HR211.out)) | (with_reducible refine Kd.C_alloc ?_ _) | (with_reducible refine Kd.C_drewN ?_ _) | (with_reducible refine Kd.C_drew ?_)))
                (case aB => exact (by repeat (first | (with_reducible first | exact HB.out | apply below_alloc | apply pw_below_drewN | apply below_drew1) | exact HB.out)))
                (case aF => exact (fun k_ hk => Kd.fresh' (Kd.R_lt (by (with_reducible repeat (first | apply Kd.R_alloc | apply Kd.R_drewN | apply Kd.R_drew)); exact HO196.out)) k_ hk))
                (case aO => exact (by (with_reducible repeat (first | apply Kd.R_alloc | apply Kd.R_drewN | apply Kd.R_drew)); exact HO207.out))
                (case aS => exact (below_size (by repeat (first | (with_reducible first | exact HB.out | apply below_alloc | apply pw_below_drewN | apply below_drew1) | exact HB.out))))
                (case aL => have := LMc19.out; omega)
                intro v213 w106 ho hb hg hat
                rw [← Ny212.out] at ho
                have n0_ := Aside0.mk (Kd.R_after (ok := (fun _ => True)) (by (with_reducible repeat (first | apply Kd.R_alloc | apply Kd.R_drewN | apply Kd.R_drew)); exact HO196.out) hg hat)
                have n1_ := Aside0.mk (hb)
                have n2_ := Aside0.mk ((show Kd.C k48 w106 A101 y201.length y201 from by rw [Ny201.out, KA101.out]; exact Kd.C_drop (m := ((ji13) : Int).toNat) (c := co99) ((Kd.R_reads' (Kd.R_after (ok := (fun _ => True)) (by (with_reducible repeat (first | apply Kd.R_alloc | apply Kd.R_drewN | apply Kd.R_drew)); exact HO196.out) hg hat)).2.2) KL101.out ((Kd.R_reads' (Kd.R_after (ok := (fun _ => True)) (by (with_reducible repeat (first | apply Kd.R_alloc | apply Kd.R_drewN | apply Kd.R_drew)); exact HO196.out) hg hat)).2.1)))
                have n3_ := Aside0.mk ((show Kd.C k48 w106 Ao99 y208.length y208 from by rw [Ny208.out]; exact Kd.C_take (m := ((ji13) : Int).toNat) ((Kd.R_reads' (Kd.R_after (ok := (fun _ => True)) (by (with_reducible repeat (first | apply Kd.R_alloc | apply Kd.R_drewN | apply Kd.R_drew)); exact HO196.out) hg hat)).2.2) KL102.out))
                have n4_ := Aside0.mk (ho)
                clear HO196
                clear HB
                clear HR204
                clear HR211
                clear HO207
                have HO196 := n0_
                have HB := n1_
                have HR204 := n2_
                have HR211 := n3_
                have HO214 := n4_
                clear n0_ n1_ n2_ n3_ n4_
                clear ho hb hg hat
                refine hK.out _ _ trivial (fun hHeld => ?_)
                clear hK K
                refine norm_ (a' := ?_) ?_ ?_
                rotate_left
                · show Act.put _ (some 34) _ = _
                  simp only [Act.put, List.setIfInBounds_toArray, List.set_cons_zero, List.set_cons_succ, i64_w, i32_w]
                  rfl
                refine pure_ (i := 9) (N := some 9) (v := ?_) (a' := ?_) #[true, true, true, true, true, true, true, true, true, true] rfl rfl (any_of HT_.out (by kernel_rfl)) (fun _ _ _ h => h) (Or.inl ⟨by rfl, ?_⟩) ?_ ?_
                rotate_left
                · intro w'
                  go_simp
                  with_reducible rfl
                rotate_left
                · simp only [Act.put, List.setIfInBounds_toArray, List.set_cons_zero, List.set_cons_succ, i64_w, i32_w]
                  rfl
                refine done_ (done_of HT_.out (by kernel_rfl)) ?_
                try go_wp2_with (first | ((with_reducible refine gate_callee (f := 15) rfl ?_); refine goesL_ (some 35) rfl rfl Try.func15 (by kernel_rfl) rfl #[] rfl (by (try simp only [List.map_toArray, List.map_cons, List.map_nil]); first | done | rfl | (simp only [List.length_drop, List.length_take]; rfl)) ?_; (with_reducible refine (merkhetlaw17_fixed.calls k  false _ A20.out).mono ?_); rintro e w107 ⟨rfl, hb⟩; refine ⟨_, rfl, ?_⟩; have n0_ := Aside0.mk (Kd.R_below (by (with_reducible repeat (first | apply Kd.R_alloc | apply Kd.R_drewN | apply Kd.R_drew)); exact HO196.out) hb); have n1_ := Aside0.mk (Kd.R_below (by (with_reducible repeat (first | apply Kd.R_alloc | apply Kd.R_drewN | apply Kd.R_drew)); exact HO214.out) hb); have n2_ := Aside0.mk (Kd.C_below (by repeat (first | (with_reducible exact HR204.out) | (with_reducible refine Kd.C_alloc ?_ _) | (with_reducible refine Kd.C_drewN ?_ _) | (with_reducible refine Kd.C_drew ?_) | exact HR204.out)) hb); have n3_ := Aside0.mk (Kd.C_below (by repeat (first | (with_reducible exact HR211.out) | (with_reducible refine Kd.C_alloc ?_ _) | (with_reducible refine Kd.C_drewN ?_ _) | (with_reducible refine Kd.C_drew ?_) | exact HR211.out)) hb); have n4_ := Aside0.mk (below_step (by repeat (first | (with_reducible first | exact HB.out | apply below_alloc | apply pw_below_drewN | apply below_drew1) | exact HB.out)) hb); clear HO196; clear HO214; clear HR204; clear HR211; clear HB; have HO196 := n0_; have HO214 := n1_; have HR204 := n2_; have HR211 := n3_; have HB := n4_; clear n0_ n1_ n2_ n3_ n4_; (try clear hb); (try clear hb2); (try clear hk); (try clear hi)))
                go_ret
                exact ⟨by first | rfl | (simp [errW_none, errW_some] <;> rfl) | (simp only [← hji13]; first | rfl | (simp [errW_none, errW_some] <;> rfl)) | (simp [*, errW_none, errW_some] <;> rfl), by repeat (first | (with_reducible first | exact HB.out | apply below_alloc | apply pw_below_drewN | apply below_drew1) | exact HB.out)⟩
            · rw [if_neg c19] at H
              exact absurd H (by simp)
          · rw [if_neg c16] at H
            exact absurd H (by simp)
        · rw [if_neg c15] at H
          exact absurd H (by simp)
      · rw [if_neg c14] at H
        exact absurd H (by simp)

/-- THE ONE PURE STATEMENT of merkhetlaw17_CertTurned. -/
def merkhetlaw17_CertTurned.Pure : Prop := ∀ (a0 : Int) (l1 : List (S48)) (a2 : Int), (Lit.int .i64 a0).wf = true → l1.length ≤ maxLen → (∀ x0_ ∈ l1, ((Lit.int .i64 x0_.f0).wf = true ∧ (Lit.int .i64 x0_.f1).wf = true ∧ (Lit.int .i64 x0_.f2).wf = true ∧ ((Lit.int .i64 x0_.f3.f0).wf = true ∧ (Lit.int .i64 x0_.f3.f1).wf = true) ∧ True)) → (Lit.int .u8 a2).wf = true → ∃ k, merkhetlaw17_CertTurned.f k a0 l1 a2 = some true

end Go.Proofs.Ytacjlaiddnfpdaa.CU
