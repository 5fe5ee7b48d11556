-- WRITTEN FOR THIS CLAIM by wip/tools/mp.py, a program of this project that drives the kit's print; the functions that the print does not take are this project's own texts.
import Derived.Test.YtacjlaiddnfpdaaLDx0
namespace Go.Proofs.Ytacjlaiddnfpdaa.LD
open Go.RowKit Go.Proofs.YtacjlaiddnfpdaaW.PrintWords Go.Proofs.YtacjlaiddnfpdaaW.PrintLast Go.Proofs.YtacjlaiddnfpdaaW.PrintMore
attribute [local go_sem] max2_int min2_int max_two min_two max_three min_three max_four min_four   -- for this text's walks alone
set_option linter.unusedVariables false
set_option linter.unusedSimpArgs false

/-! ### api_Edge_56: function 56 -/
/-- Where the first one stands that is such; -1. -/
def api_Edge_56_idx (p : S48 → Bool) (l : List S48) : Int := if l.any p = true then (l.findIdx p : Int) else -1
theorem api_Edge_56_hit (p : S48 → Bool) (l : List S48) (k : Nat) (hk : k < l.length) (hp : p l[k] = true) (hn : ∀ j (h : j < l.length), j < k → p l[j] = false) : api_Edge_56_idx p l = (k : Int) := by
  unfold api_Edge_56_idx
  rw [if_pos (List.any_eq_true.2 ⟨_, List.getElem_mem hk, hp⟩)]
  congr 1
  rw [List.findIdx_eq hk]
  exact ⟨hp, fun j hj => by simpa using hn j (by omega) hj⟩
theorem api_Edge_56_miss (p : S48 → Bool) (l : List S48) (hn : ∀ j (h : j < l.length), p l[j] = false) : api_Edge_56_idx p l = -1 := by
  unfold api_Edge_56_idx
  rw [if_neg]
  intro h
  obtain ⟨x, hx, hp⟩ := List.any_eq_true.1 h
  obtain ⟨j, hj, rfl⟩ := List.getElem_of_mem hx
  rw [hn j hj] at hp
  exact absurd hp (by decide)
set_option maxHeartbeats 8000000 in
set_option maxRecDepth 100000 in
theorem api_Edge_56.calls (A0 : Option Addr) (c0 : Nat) (l0 : List S48) (p : S48 → Bool) (g : Nat) (lb : Array Value) (eg : ∀ args w, (callFunc g args).run Try.prog w = .ok (.enter g args) w) (w : World) (hr0 : Kd.C k48 w A0 l0.length l0)
    (hp : ∀ (W : World) (x : S48), x ∈ l0 → Below w.heap.size w W → Calls Try.prog g (#[(fun x : S48 => Value.agg #[.int .i64 x.f0, .int .i64 x.f1, .int .i64 x.f2, .int .i64 x.f3.f0, .int .i64 x.f3.f1, .bool x.f4]) x] ++ lb) W fun e w' => e = .returned (.bool (p x)) ∧ Below w.heap.size w w') :
    Calls Try.prog 56 #[.slice A0 l0.length c0, .func (.func g) #[] lb] w fun e w' => e = .returned (.int .i64 (api_Edge_56_idx p l0)) ∧ Below w.heap.size w w' := by
  have HR0 := Aside0.mk hr0
  have HP := Aside0.mk hp
  have HB := Aside0.mk (Below.refl w.heap.size w)
  have hmax : l0.length ≤ 9223372036854775807 := Kd.C_max hr0
  clear hr0 hp
  go_enter Try.func56, Try.ntmps56
  go_wp2
  go_loopg [5, 8] l0.length (fun gg _ s8 wr => ∃ k : Nat, k ≤ l0.length ∧ l0.length - k ≤ gg ∧ s8 = .int .i64 k ∧ Aside0 (Below w.heap.size w wr) ∧ Aside0 (∀ j (h : j < l0.length), j < k → p l0[j] = false))
  case atStart => exact ⟨0, Nat.zero_le _, by omega, rfl, HB, ⟨fun j _ hj => absurd hj (Nat.not_lt_zero _)⟩⟩
  case round =>
    obtain ⟨k, hk, hg, rfl, HBr, HN⟩ := hrel
    by_cases hlt : k < l0.length
    · have hltz : (k : Int) < (l0.length : Int) := by omega
      obtain ⟨ad, e, hx0, hx1, hx2, hx3, hx4, hx5⟩ := at_T48 HR0.out (k : Int) (by omega) (by omega)
      cases e
      replace hx0 := (HBr.out.cell (World.block_lt_of_cell? w _ hx0)).trans hx0; simp only [Int.toNat_natCast] at hx0; replace hx1 := (HBr.out.cell (World.block_lt_of_cell? w _ hx1)).trans hx1; simp only [Int.toNat_natCast] at hx1; replace hx2 := (HBr.out.cell (World.block_lt_of_cell? w _ hx2)).trans hx2; simp only [Int.toNat_natCast] at hx2; replace hx3 := (HBr.out.cell (World.block_lt_of_cell? w _ hx3)).trans hx3; simp only [Int.toNat_natCast] at hx3; replace hx4 := (HBr.out.cell (World.block_lt_of_cell? w _ hx4)).trans hx4; simp only [Int.toNat_natCast] at hx4; replace hx5 := (HBr.out.cell (World.block_lt_of_cell? w _ hx5)).trans hx5; simp only [Int.toNat_natCast] at hx5
      have hu_ := Try.underlying48
      have hcall := HP.out wr l0[k] (List.getElem_mem hlt) HBr.out
      have hy : rd_T48 l0 (k : Int) = l0[k] := by first | (simp [rd, rdOf, List.getD_eq_getElem?_getD, List.getElem?_eq_getElem hlt]; done) | (show l0.getD _ _ = _; simp [List.getD_eq_getElem?_getD, List.getElem?_eq_getElem hlt])
      have HY := Aside0.mk hy
      generalize hz : l0[k] = y at hcall hy
      rw [hy] at hx0 hx1 hx2 hx3 hx4 hx5
      have HZ := Aside0.mk hz
      clear hy hz
      cases hq : p y with
      | true =>
        rw [hq] at hcall
        go_wp2_with (go_at_fn g; refine hcall.mono ?_; rintro e w' ⟨rfl, hb'⟩)
        go_ret
        refine ⟨?_, hb'⟩
        rw [api_Edge_56_hit p l0 k hlt (by rw [HZ.out]; exact hq) HN.out]
        rfl
      | false =>
        rw [hq] at hcall
        go_wp2_with (go_at_fn g; refine hcall.mono ?_; rintro e w' ⟨rfl, hb'⟩)
        go_roundg (l0.length - (k + 1))
        case measure => omega
        case rel =>
          refine ⟨k + 1, by omega, by omega, by go_num, ⟨hb'⟩, ⟨fun j h hj => ?_⟩⟩
          by_cases e : j = k
          · subst e
            rw [HZ.out]; exact hq
          · exact HN.out j h (by omega)
    · have hltz : ¬ (k : Int) < (l0.length : Int) := by omega
      have HK := Aside0.mk (show k = l0.length by omega)
      go_wp2
      go_ret
      refine ⟨?_, HBr.out⟩
      rw [api_Edge_56_miss p l0 (fun j h => HN.out j h (by rw [HK.out]; exact h))]
      rfl


/-! ### api_Edge_42: function 42 -/
set_option maxHeartbeats 8000000 in
set_option maxRecDepth 100000 in
theorem api_Edge_42.calls (A0 : Option Addr) (c0 : Nat) (l0 : List S48) (p : S48 → Bool) (g : Nat) (lb : Array Value) (eg : ∀ args w, (callFunc g args).run Try.prog w = .ok (.enter g args) w) (w : World) (hr0 : Kd.C k48 w A0 l0.length l0)
    (hp : ∀ (W : World) (x : S48), x ∈ l0 → Below w.heap.size w W → Calls Try.prog g (#[(fun x : S48 => Value.agg #[.int .i64 x.f0, .int .i64 x.f1, .int .i64 x.f2, .int .i64 x.f3.f0, .int .i64 x.f3.f1, .bool x.f4]) x] ++ lb) W fun e w' => e = .returned (.bool (p x)) ∧ Below w.heap.size w w') :
    Calls Try.prog 42 #[.slice A0 l0.length c0, .func (.func g) #[] lb] w fun e w' => e = .returned (.bool (l0.any p)) ∧ Below w.heap.size w w' := by
  have hany : decide (0 ≤ api_Edge_56_idx p l0) = l0.any p := by
    unfold api_Edge_56_idx
    by_cases h : l0.any p = true
    · rw [if_pos h, h]; exact decide_eq_true (by omega)
    · rw [if_neg h, Bool.eq_false_iff.2 h]; rfl
  have HA := Aside0.mk hany
  have hcall := api_Edge_56.calls A0 c0 l0 p g lb eg w hr0 hp
  clear hany hr0 hp
  go_enter Try.func42, Try.ntmps42
  go_wp2_with (go_at_call 56; refine hcall.mono ?_; rintro e w' ⟨rfl, hb'⟩)
  go_ret
  exact ⟨by first | rfl | (rw [← HA.out]; rfl), hb'⟩


/-! ### relax_May: function 23 -/
/-- Is an edge none for so many hosts? -/
def mayBad (n : Int) (x : S48) : Bool := decide (mn x.f0 x.f1 < 0) || decide (mx x.f0 x.f1 ≥ n) || decide (x.f2 > 4503599627370496) || decide (x.f2 < -4503599627370496)
def relax_May.f (a0 : Int) (l1 : List S48) : Option Bool := if a0 < 0 then some false else (if a0 > 32 then some false else some (!(l1.any (mayBad a0))))
set_option maxHeartbeats 8000000 in
set_option maxRecDepth 100000 in
theorem mayBad_calls (n : Int) (B : Nat) (x : S48) (w W : World) (hb : Below w.heap.size w W) (hcell : W.cell? ⟨B, 0, none⟩ = some (.int .i64 n)) :
    Calls Try.prog 43 (#[(fun x : S48 => Value.agg #[.int .i64 x.f0, .int .i64 x.f1, .int .i64 x.f2, .int .i64 x.f3.f0, .int .i64 x.f3.f1, .bool x.f4]) x] ++ #[.pointer (some ⟨B, 0, none⟩)]) W fun e w' => e = .returned (.bool (mayBad n x)) ∧ Below w.heap.size w w' := by
  obtain ⟨a, b, c, d, f⟩ := x
  have HB := Aside0.mk hb
  have HLT := Aside0.mk (World.block_lt_of_cell? W _ hcell)
  clear hb
  show Calls Try.prog 43 #[.agg #[.int .i64 a, .int .i64 b, .int .i64 c, .int .i64 d.f0, .int .i64 d.f1, .bool f], .pointer (some ⟨B, 0, none⟩)] W _
  have hu_ := Try.underlying48
  have hcell2 : (W.alloc (.cells #[.int .i64 a, .int .i64 b, .int .i64 c, .int .i64 d.f0, .int .i64 d.f1, .bool f] 48)).cell? ⟨B, 0, none⟩ = some (.int .i64 n) := ((below_alloc (Below.refl W.heap.size W) _).cell HLT.out).trans hcell
  go_enter Try.func43, Try.ntmps43
  go_wp2
  all_goals (go_ret; refine ⟨congrArg (fun b_ => Ending.returned (.bool b_)) ?_, below_alloc HB.out _⟩; clear hcell hcell2 hu_; unfold mayBad mn mx; rw [Bool.eq_iff_iff]; simp only [Bool.or_eq_true, decide_eq_true_eq, true_iff, iff_true, false_iff, iff_false, Bool.false_eq_true, Bool.true_eq_false, ge_iff_le, gt_iff_lt]; (repeat' split) <;> omega)
set_option maxHeartbeats 8000000 in
set_option maxRecDepth 100000 in
theorem relax_May.calls (a0 : Int) (A1 : Option Addr) (c1 : Nat) (l1 : List S48) (r : Bool) (w : World) (hr1 : Kd.C k48 w A1 l1.length l1) (hc1 : l1.length ≤ c1) (h : relax_May.f a0 l1 = some r) :
    Calls Try.prog 23 #[.int .i64 a0, .slice A1 l1.length c1] w fun e w' => e = .returned (.bool r) ∧ Below w.heap.size w w' := by
  have hmf : ∀ (fn : Fn) (first cap : Array Value) (w : World), (Instr.makeFunc fn first cap).run Try.prog w = .ok (.func fn first cap) w := fun _ _ _ _ => rfl
  have HB := Aside0.mk (below_alloc (Below.refl w.heap.size w) (.cells #[.int .i64 a0] 3))
  have HR := Aside0.mk (Kd.C_alloc hr1 (.cells #[.int .i64 a0] 3))
  have hcall := api_Edge_42.calls A1 c1 l1 (mayBad a0) 43 #[.pointer (some ⟨w.heap.size, 0, none⟩)] (fun args w => enters_ (P := Try.prog) Try.func43 (by kernel_rfl) rfl args w) (w.alloc (.cells #[.int .i64 a0] 3)) HR.out (fun W x _ hb => mayBad_calls a0 w.heap.size x _ W hb (by rw [hb.cell (p := ⟨w.heap.size, 0, none⟩) (by simp)]; rw [World.cell?_alloc_at _ _ _ _ rfl]; rfl))
  have HC := Aside0.mk hcall
  clear hcall hr1 hc1
  unfold relax_May.f at h
  by_cases c2 : a0 < 0
  · rw [if_pos c2] at h
    obtain rfl := Option.some.inj h
    clear h
    have c2b := decide_eq_true c2
    go_enter Try.func23, Try.ntmps23
    go_wp2
    go_ret
    exact ⟨rfl, HB.out⟩
  · rw [if_neg c2] at h
    have c2b := decide_eq_false c2
    by_cases c3 : a0 > 32
    · rw [if_pos c3] at h
      obtain rfl := Option.some.inj h
      clear h
      have c3b : decide (32 < a0) = true := decide_eq_true c3
      go_enter Try.func23, Try.ntmps23
      go_wp2
      go_ret
      exact ⟨rfl, HB.out⟩
    · rw [if_neg c3] at h
      obtain rfl := Option.some.inj h
      clear h
      have c3b : decide (32 < a0) = false := decide_eq_false c3
      clear c2 c3
      go_enter Try.func23, Try.ntmps23
      go_wp2_with (go_at_call 42; refine HC.out.mono ?_; rintro e w2 ⟨rfl, hb⟩)
      go_ret
      exact ⟨by simp, below_step HB.out hb⟩


/-! ### bits_Mul32: function 69 -/
def bits_Mul32.f (a0 : Int) (a1 : Int) : Option (Int × Int) := some (((IntKind.u64.wrap ((IntKind.u64.wrap (a0)) * (IntKind.u64.wrap (a1)))) / 4294967296) % 4294967296, (IntKind.u64.wrap ((IntKind.u64.wrap (a0)) * (IntKind.u64.wrap (a1)))) % 4294967296)
set_option maxHeartbeats 8000000 in
set_option maxRecDepth 100000 in
theorem bits_Mul32.calls (a0 : Int) (a1 : Int) (r1 : Int) (r2 : Int) (w : World) (h : bits_Mul32.f a0 a1 = some (r1, r2)) :
    Calls Try.prog 69 #[.int .u32 a0, .int .u32 a1] w fun e w' => e = .returned (.tuple #[.int .u32 r1, .int .u32 r2]) ∧ Drawn0 w w' := by
  have H : (some (((IntKind.u64.wrap ((IntKind.u64.wrap (a0)) * (IntKind.u64.wrap (a1)))) / 4294967296) % 4294967296, (IntKind.u64.wrap ((IntKind.u64.wrap (a0)) * (IntKind.u64.wrap (a1)))) % 4294967296)) = some (r1, r2) := h
  clear h
  simp only [Option.some.injEq, Prod.mk.injEq] at H
  obtain ⟨rfl, rfl⟩ := H
  go_enter Try.func69, Try.ntmps69
  go_wp2
  go_ret2
  exact ⟨by first | rfl | (simp; done) | (simp [*]; done), by repeat (first | exact Drawn0.refl _ | apply Drawn0.step)⟩

/-! ### bits_Mul64: function 70 -/
def bits_Mul64.f (a0 : Int) (a1 : Int) : Option (Int × Int) := some (IntKind.u64.wrap ((IntKind.u64.wrap ((IntKind.u64.wrap ((a0 / 4294967296) * (a1 / 4294967296))) + ((IntKind.u64.wrap ((IntKind.u64.wrap ((a0 / 4294967296) * (Go.bits .and .u64 a1 4294967295))) + ((IntKind.u64.wrap ((Go.bits .and .u64 a0 4294967295) * (Go.bits .and .u64 a1 4294967295))) / 4294967296))) / 4294967296))) + ((IntKind.u64.wrap ((Go.bits .and .u64 (IntKind.u64.wrap ((IntKind.u64.wrap ((a0 / 4294967296) * (Go.bits .and .u64 a1 4294967295))) + ((IntKind.u64.wrap ((Go.bits .and .u64 a0 4294967295) * (Go.bits .and .u64 a1 4294967295))) / 4294967296))) 4294967295) + (IntKind.u64.wrap ((Go.bits .and .u64 a0 4294967295) * (a1 / 4294967296))))) / 4294967296)), IntKind.u64.wrap (a0 * a1))
set_option maxHeartbeats 8000000 in
set_option maxRecDepth 100000 in
theorem bits_Mul64.calls (a0 : Int) (a1 : Int) (r1 : Int) (r2 : Int) (w : World) (h : bits_Mul64.f a0 a1 = some (r1, r2)) :
    Calls Try.prog 70 #[.int .u64 a0, .int .u64 a1] w fun e w' => e = .returned (.tuple #[.int .u64 r1, .int .u64 r2]) ∧ Drawn0 w w' := by
  have H : (some (IntKind.u64.wrap ((IntKind.u64.wrap ((IntKind.u64.wrap ((a0 / 4294967296) * (a1 / 4294967296))) + ((IntKind.u64.wrap ((IntKind.u64.wrap ((a0 / 4294967296) * (Go.bits .and .u64 a1 4294967295))) + ((IntKind.u64.wrap ((Go.bits .and .u64 a0 4294967295) * (Go.bits .and .u64 a1 4294967295))) / 4294967296))) / 4294967296))) + ((IntKind.u64.wrap ((Go.bits .and .u64 (IntKind.u64.wrap ((IntKind.u64.wrap ((a0 / 4294967296) * (Go.bits .and .u64 a1 4294967295))) + ((IntKind.u64.wrap ((Go.bits .and .u64 a0 4294967295) * (Go.bits .and .u64 a1 4294967295))) / 4294967296))) 4294967295) + (IntKind.u64.wrap ((Go.bits .and .u64 a0 4294967295) * (a1 / 4294967296))))) / 4294967296)), IntKind.u64.wrap (a0 * a1))) = some (r1, r2) := h
  clear h
  simp only [Option.some.injEq, Prod.mk.injEq] at H
  obtain ⟨rfl, rfl⟩ := H
  go_enter Try.func70, Try.ntmps70
  go_wp2
  go_ret2
  exact ⟨by first | rfl | (simp; done) | (simp [*]; done), by repeat (first | exact Drawn0.refl _ | apply Drawn0.step)⟩

/-! ### bits_Mul: function 65 -/
def bits_Mul.f (a0 : Int) (a1 : Int) : Option (Int × Int) := (bits_Mul64.f a0 a1).bind fun bt164 => (some (bt164.1, bt164.2))
set_option maxHeartbeats 8000000 in
set_option maxRecDepth 100000 in
theorem bits_Mul.calls (a0 : Int) (a1 : Int) (r1 : Int) (r2 : Int) (w : World) (h : bits_Mul.f a0 a1 = some (r1, r2)) :
    Calls Try.prog 65 #[.int .u64 a0, .int .u64 a1] w fun e w' => e = .returned (.tuple #[.int .u64 r1, .int .u64 r2]) ∧ Drawn0 w w' := by
  have H : ((bits_Mul64.f a0 a1).bind fun bt164 => (some (bt164.1, bt164.2))) = some (r1, r2) := h
  clear h
  replace H := Option.bind_eq_some_iff.mp H
  obtain ⟨⟨t164, t165⟩, A30, H⟩ := H
  replace H : (some (t164, t165)) = some (r1, r2) := H
  have A3 := Aside0.mk A30
  clear A30
  simp only [Option.some.injEq, Prod.mk.injEq] at H
  obtain ⟨rfl, rfl⟩ := H
  go_enter Try.func65, Try.ntmps65
  go_wp2_with (first | ((with_reducible refine gate_callee (f := 70) rfl ?_); refine goesL_ (some 25) rfl rfl Try.func70 (by kernel_rfl) rfl #[.int .u64 a0, .int .u64 a1] rfl (by (try simp only [List.map_toArray, List.map_cons, List.map_nil]); first | done | rfl | (simp only [List.length_drop, List.length_take]; rfl)) ?_; (with_reducible refine (bits_Mul64.calls a0 a1 t164 t165 _ A3.out).mono ?_); rintro e w' ⟨rfl, ⟨nd, rfl⟩⟩; refine ⟨_, rfl, ?_⟩))
  go_ret2
  exact ⟨by first | rfl | (simp; done) | (simp [*]; done), by repeat (first | exact Drawn0.refl _ | apply Drawn0.step)⟩

/-! ### slices_Repeat_int64_int64: function 53 -/
def slices_Repeat_int64_int64.f (l0 : List Int) (a1 : Int) : Option (List Int) := if l0.length = 1 then (if 0 ≤ a1 then (if a1 ≤ 1000000 then some (List.replicate a1.toNat (l0.getD 0 0)) else none) else none) else none
theorem slices_Repeat_int64_int64_mul (n : Nat) (h : n ≤ 1000000) : bits_Mul.f 1 (n : Int) = some (0, (n : Int)) := by
  have h1 : Go.bits .and .u64 ((1 : Nat) : Int) ((4294967295 : Nat) : Int) = ((1 : Nat) : Int) := by rw [Go.u64_and_nat 1 4294967295 (by decide) (by decide)]; rfl
  have h2 : Go.bits .and .u64 ((n : Nat) : Int) ((4294967295 : Nat) : Int) = ((n : Nat) : Int) := by
    rw [Go.u64_and_nat n 4294967295 (by omega) (by decide), show (4294967295 : Nat) = 2 ^ 32 - 1 by decide, Nat.and_two_pow_sub_one_eq_mod]
    omega
  have h3 : Go.bits .and .u64 ((0 : Nat) : Int) ((4294967295 : Nat) : Int) = ((0 : Nat) : Int) := by rw [Go.u64_and_nat 0 4294967295 (by decide) (by decide)]; rfl
  have wu : ∀ x : Int, IntKind.u64.wrap x = x % 18446744073709551616 := fun x => by simp [IntKind.wrap, IntKind.bits, IntKind.signed]
  simp only [Int.natCast_one, Int.cast_ofNat_Int, Int.natCast_zero] at h1 h2 h3
  unfold bits_Mul.f bits_Mul64.f
  rw [h1, h2]
  simp only [Option.bind_some, wu, Int.one_mul]
  have e1 : ((1 : Int) / 4294967296) = 0 := by decide
  have e2 : ((n : Int) / 4294967296) = 0 := by omega
  rw [e1, e2]
  have e3 : ((0 : Int) * (n : Int) % 18446744073709551616 + ((n : Int) % 18446744073709551616) / 4294967296) % 18446744073709551616 = 0 := by omega
  rw [e3, h3]
  simp only [Option.some.injEq, Prod.mk.injEq]
  omega
set_option maxHeartbeats 8000000 in
set_option maxRecDepth 100000 in
theorem slices_Repeat_int64_int64.calls (A0 : Option Addr) (c0 : Nat) (l0 : List Int) (a1 : Int) (r : List Int) (w : World) (hr0 : Kd.C (Kd.int .i64) w A0 l0.length l0) (hc0 : l0.length ≤ c0) (h : slices_Repeat_int64_int64.f l0 a1 = some r) :
    Calls Try.prog 53 #[.slice A0 l0.length c0, .int .i64 a1] w fun e w' => ∃ v0_ : Value, e = .returned (v0_) ∧ Kd.R (Kd.int .i64) 2 w' w.heap.size (fun _ => True) v0_ r ∧ Below w.heap.size w w' := by
  have HR0 := Aside0.mk hr0
  have HB := Aside0.mk (Below.refl w.heap.size w)
  unfold slices_Repeat_int64_int64.f at h
  by_cases h1 : l0.length = 1
  case neg => rw [if_neg h1] at h; exact absurd h (by simp)
  by_cases h2 : 0 ≤ a1
  case neg => rw [if_pos h1, if_neg h2] at h; exact absurd h (by simp)
  by_cases h3 : a1 ≤ 1000000
  case neg => rw [if_pos h1, if_pos h2, if_neg h3] at h; exact absurd h (by simp)
  rw [if_pos h1, if_pos h2, if_pos h3] at h
  obtain rfl := Option.some.inj h
  obtain ⟨x, rfl⟩ := List.length_eq_one_iff.1 h1
  obtain ⟨N, rfl⟩ := Int.eq_ofNat_of_zero_le h2
  have hN : N ≤ 1000000 := by omega
  have HM := Aside0.mk (slices_Repeat_int64_int64_mul N hN)
  rw [Int.toNat_natCast]
  show Calls Try.prog 53 #[.slice A0 1 c0, .int .i64 (N : Int)] w fun e w' => ∃ v0_ : Value, e = .returned (v0_) ∧ Kd.R (Kd.int .i64) 2 w' w.heap.size (fun _ => True) v0_ (List.replicate N x) ∧ Below w.heap.size w w'
  have HC0 := Aside0.mk hc0
  obtain ⟨m0, hm0⟩ : ∃ m0, m0 = min 1 N := ⟨_, rfl⟩
  have HMIN := Aside0.mk (show min 1 (List.replicate N (0 : Int)).length = m0 by rw [hm0]; simp)
  have HM0 := Aside0.mk hm0
  clear h h1 h2 h3 hr0 hc0 hm0
  go_enter Try.func53, Try.ntmps53
  go_wp2_with (first
    | (go_at_call 65; refine (bits_Mul.calls 1 (N : Int) 0 (N : Int) _ HM.out).mono ?_; rintro e w1 ⟨rfl, hd⟩; have HB1 := Aside0.mk (show Below w.heap.size w w1 by obtain ⟨q_, rfl⟩ := hd; exact pw_below_drewN (Below.refl _ _) q_); clear hd)
    | ((with_reducible refine gate_dst (N := 30) rfl ?_); refine Kd.R_make (Kd.int .i64) (w0 := w) w.heap.size 2 rfl (N := 30) rfl 23 _ _ rfl (N : Int) rfl rfl Try.underlying23 (.int .i64 0) 8 info2 rfl (by decide) (by omega) (0 : Int) (ok := fun _ => True) (okp := fun _ => True) rfl (fun _ hk => hk) trivial (by omega) (by rw [Int.toNat_natCast]; omega) HB1.out (below_size HB1.out) ?_; intro v2 w2 ho hb hg_ hn_; clear hg_ hn_; rw [Int.toNat_natCast] at ho; have HO2 := Aside0.mk ho; have HB2 := Aside0.mk hb; clear ho hb)
    | ((with_reducible refine gate_dst (N := 33) rfl ?_); refine Kd.R_copy (0 : Int) (w0 := w) w.heap.size rfl (.tmp 31) (.tmp 32) 23 23 2 rfl Try.underlying23 (by kernel_rfl) v2 (List.replicate N (0 : Int)) [x] A0 1 c0 (fun _ => True) rfl rfl HO2.out (Kd.C_below HR0.out HB2.out) HB2.out (below_size HB2.out) ?_; intro w3 ho hb hg_; clear hg_; rw [HMIN.out] at ho ⊢; have HO3 := Aside0.mk ho; have HB3 := Aside0.mk hb; clear ho hb)
    )
  obtain ⟨L1, hL1⟩ : ∃ L1 : List Int, L1 = [x].take m0 ++ (List.replicate N (0 : Int)).drop m0 := ⟨_, rfl⟩
  have hlen : L1.length = N := by rw [hL1, HM0.out]; simp; omega
  have HO := Aside0.mk (show Kd.R (Kd.int .i64) 2 w3 w.heap.size (fun _ => True) v2 L1 by rw [hL1]; exact HO3.out)
  have hhead : 1 ≤ N → L1.take 1 = [x] := fun h => by rw [hL1, HM0.out, Nat.min_eq_left h]; simp
  clear HO2 HO3 HB1 HB2 HMIN hL1 HM HR0 HC0
  rcases Nat.eq_zero_or_pos N with rfl | hpos
  · obtain rfl : m0 = 0 := by rw [HM0.out]; rfl
    obtain ⟨Ao, co, rfl⟩ := Kd.R_slice HO.out
    rw [hlen]
    have hL0 : L1 = [] := List.eq_nil_of_length_eq_zero hlen
    have HL := Aside0.mk hL0
    clear hL0 hhead hlen
    go_loopw [8] (fun v8 wr => v8 = .int .i64 0 ∧ Aside0 (wr = w3)) (fun _ _ => 0)
    case atStart => exact ⟨rfl, ⟨rfl⟩⟩
    case round =>
      obtain ⟨rfl, HW⟩ := hrel
      obtain rfl := HW.out
      clear HW
      go_wp2
      go_ret
      exact ⟨_, rfl, by have h_ := HO.out; rw [HL.out] at h_; exact h_, HB3.out⟩
  · obtain ⟨g, cap, cur, hv, hbg, hh, hnc, hcm, hsz, htk⟩ := H.R_unpack HO.out (by omega)
    rw [hlen] at hv hnc htk
    subst hv
    obtain rfl : m0 = 1 := by rw [HM0.out, Nat.min_eq_left hpos]
    have HS := Aside0.mk (show H.repSt .i64 2 w w3 g cap 1 x from ⟨HB3.out, hbg, hcm, cur, hh, hsz, by
      have h1 := congrArg (List.take 1) htk
      rw [List.take_take, Nat.min_eq_left hpos, ← List.map_take, hhead hpos] at h1
      exact h1⟩)
    have HBG := Aside0.mk hbg
    have HCM := Aside0.mk hcm
    clear HO HB3 htk hsz hh hhead hlen hbg hcm
    obtain ⟨i0, hi0, _, hsz0, _⟩ := info_parts info2
    go_loopw [8] (fun v8 wr => ∃ k : Nat, 1 ≤ k ∧ k ≤ N ∧ v8 = .int .i64 k ∧ Aside0 (H.repSt .i64 2 w wr g cap k x)) (fun v8 _ => N - (intOf v8).toNat)
    case atStart => exact ⟨1, Nat.le_refl _, hpos, rfl, HS⟩
    case round =>
      clear HS
      obtain ⟨k, hk1, hkN, rfl, HS⟩ := hrel
      by_cases hlt : k < N
      · have hltz : (k : Int) < (N : Int) := by omega
        have hA := cut_to (P := Try.prog) 23 2 .i64 Try.underlying23 hi0 (some ⟨g, 0, none⟩) N cap (k : Int) (by omega) (by omega) hnc
        have hD := cut_from (P := Try.prog) 23 2 .i64 Try.underlying23 hi0 1 hsz0 (some ⟨g, 0, none⟩) N cap (k : Int) (by omega) (by omega)
        have hA2 : ∀ W : World, (Instr.slice 23 (.slice (some ⟨g, 0, none⟩) N cap) none (some (.int .i64 (k : Int))) none).run Try.prog W = .ok (.slice (some ⟨g, 0, none⟩) k cap) W := fun W => by have h_ := hA W; rw [Int.toNat_natCast] at h_; exact h_
        have hD2 : ∀ W : World, (Instr.slice 23 (.slice (some ⟨g, 0, none⟩) N cap) (some (.int .i64 (k : Int))) none none).run Try.prog W = .ok (.slice (some ⟨g, k, none⟩) (N - k) (cap - k)) W := fun W => by
          have h_ := hD W
          rw [Int.toNat_natCast, if_neg (show ¬ cap = k by omega)] at h_
          rw [h_]
          simp [Addr.add, show ¬ k = 0 by omega]
        clear hA hD
        obtain ⟨cur, hh, hsz, htk⟩ := HS.out.row
        have HSP := Aside0.mk (H.rep_splice (k := .i64) (x := x) (m := k) (j := min k (N - k)) (N := N) hkN (Nat.min_le_left _ _) (by omega) htk)
        have HH := Aside0.mk hh
        have HSZ := Aside0.mk hsz
        have HTK := Aside0.mk htk
        clear hh hsz htk
        have HSRC := Aside0.mk (show ∀ (W : World), W.heap[g]? = some (.cells cur.toArray 2 (0, 0)) → ∀ (j : Nat) (v : Value), (List.replicate (min k (N - k)) (Value.int .i64 x))[j]? = some v → W.cell? ((⟨g, 0, none⟩ : Addr).add j) = some v by
          intro W hW j v hv
          rw [List.getElem?_replicate] at hv
          split at hv
          · injection hv with hv
            subst hv
            have h1 : (cur.take k)[j]? = some (.int .i64 x) := by rw [HTK.out, List.getElem?_replicate, if_pos (by omega)]
            rw [List.getElem?_take] at h1
            split at h1
            · rw [show ((⟨g, 0, none⟩ : Addr).add j) = ⟨g, j, none⟩ by cases j <;> simp [Addr.add], H.cell_list hW]; exact h1
            · cases h1
          · cases hv)
        have HL := Aside0.mk (show k + (List.replicate (min k (N - k)) (Value.int .i64 x)).length ≤ cur.length by have := HSZ.out; simp; omega)
        have H1 := Aside0.mk (show ∀ v ∈ List.replicate (min k (N - k)) (Value.int .i64 x), v.oneCell' = true from fun v hv => by rw [(List.mem_replicate.1 hv).2]; rfl)
        have HMN := Aside0.mk (show (List.replicate (min k (N - k)) (Value.int .i64 x)).length = Nat.min k (N - k) by simp)
        go_wp2
        refine start_ (n := 10) (S := fun w' => True) (ds := []) #[false, false, false, false, false, false, false, false, false, false] (by kernel_rfl) rfl rfl trivial (fun hHeld => ?_)
        refine pure_ (i := 0) (N := some 38) (v := ?_) (a' := ?_) #[true, false, false, false, false, false, false, false, false, false] rfl rfl (by kernel_rfl) (fun _ _ _ h => h) (Or.inl ⟨by rfl, ?_⟩) ?_ ?_
        rotate_left
        · intro w'
          go_simp
          with_reducible rfl
        rotate_left
        · simp only [Act.put, List.setIfInBounds_toArray, List.set_cons_zero, List.set_cons_succ, i64_w, i32_w]
          rfl
        refine pure_ (i := 1) (N := some 39) (v := ?_) (a' := ?_) #[true, true, false, false, false, false, false, false, false, false] rfl rfl (by kernel_rfl) (fun _ _ _ h => h) (Or.inl ⟨by rfl, ?_⟩) ?_ ?_
        rotate_left
        · intro w'
          go_simp
          with_reducible rfl
        rotate_left
        · simp only [Act.put, List.setIfInBounds_toArray, List.set_cons_zero, List.set_cons_succ, i64_w, i32_w]
          rfl
        refine pure_ (i := 2) (N := some 40) (v := ?_) (a' := ?_) #[true, true, true, false, false, false, false, false, false, false] rfl rfl (by kernel_rfl) (fun _ _ _ h => h) (Or.inl ⟨by rfl, ?_⟩) ?_ ?_
        rotate_left
        · intro w'
          go_simp
          with_reducible rfl
        rotate_left
        · simp only [Act.put, List.setIfInBounds_toArray, List.set_cons_zero, List.set_cons_succ, i64_w, i32_w]
          rfl
        refine pure_ (i := 3) (N := some 41) (v := ?_) (a' := ?_) #[true, true, true, true, false, false, false, false, false, false] rfl rfl (by kernel_rfl) (fun _ _ _ h => h) (Or.inl ⟨by rfl, ?_⟩) ?_ ?_
        rotate_left
        · intro w'
          go_simp
          with_reducible rfl
        rotate_left
        · simp only [Act.put, List.setIfInBounds_toArray, List.set_cons_zero, List.set_cons_succ, i64_w, i32_w]
          rfl
        refine pure_ (i := 4) (N := some 42) (v := ?_) (a' := ?_) #[true, true, true, true, true, false, false, false, false, false] rfl rfl (by kernel_rfl) (fun _ _ _ h => h) (Or.inl ⟨by rfl, ?_⟩) ?_ ?_
        rotate_left
        · intro w'
          go_simp
          with_reducible rfl
        rotate_left
        · simp only [Act.put, List.setIfInBounds_toArray, List.set_cons_zero, List.set_cons_succ, i64_w, i32_w]
          rfl
        refine pure_ (i := 5) (N := some 43) (v := ?_) (a' := ?_) #[true, true, true, true, true, true, false, false, false, false] rfl rfl (by kernel_rfl) (fun _ _ _ h => h) (Or.inl ⟨by rfl, ?_⟩) ?_ ?_
        rotate_left
        · intro w'
          go_simp
          with_reducible rfl
        rotate_left
        · simp only [Act.put, List.setIfInBounds_toArray, List.set_cons_zero, List.set_cons_succ, i64_w, i32_w]
          rfl
        refine pure_ (i := 6) (N := some 44) (v := ?_) (a' := ?_) #[true, true, true, true, true, true, true, false, false, false] rfl rfl (by kernel_rfl) (fun _ _ _ h => h) (Or.inl ⟨by rfl, ?_⟩) ?_ ?_
        rotate_left
        · intro w'
          go_simp
          with_reducible rfl
        rotate_left
        · simp only [Act.put, List.setIfInBounds_toArray, List.set_cons_zero, List.set_cons_succ, i64_w, i32_w]
          rfl
        refine one_ (i := 7) (N := some 45) #[true, true, true, true, true, true, true, true, false, false] rfl rfl (by kernel_rfl) (by decide) (fun K hK => ?_)
        refine step_copy_splice rfl (.tmp 41) (.tmp 44) 23 23 rfl 2 Try.underlying23 (by kernel_rfl) (some ⟨g, k, none⟩) (some ⟨g, 0, none⟩) (N - k) (cap - k) k cap rfl rfl g k cur 2 HH.out (List.replicate (min k (N - k)) (.int .i64 x)) HMN.out (fun _ => ⟨rfl, _, rfl, HSRC.out _ HH.out⟩) HL.out H1.out w.heap.size w (below_drew1 HS.out.below) HBG.out ?_
        intro w4 hg4 hb4
        refine hK.out _ _ trivial (fun hHeld => ?_)
        clear hK K
        refine norm_ (a' := ?_) ?_ ?_
        rotate_left
        · show Act.put _ (some 45) _ = _
          simp only [Act.put, List.setIfInBounds_toArray, List.set_cons_zero, List.set_cons_succ, i64_w, i32_w]
          rfl
        refine pure_ (i := 8) (N := some 46) (v := ?_) (a' := ?_) #[true, true, true, true, true, true, true, true, true, false] rfl rfl (by kernel_rfl) (fun _ _ _ h => h) (Or.inl ⟨by rfl, ?_⟩) ?_ ?_
        rotate_left
        · intro w'
          go_simp
          with_reducible rfl
        rotate_left
        · simp only [Act.put, List.setIfInBounds_toArray, List.set_cons_zero, List.set_cons_succ, i64_w, i32_w]
          rfl
        refine pure_ (i := 9) (N := some 8) (v := ?_) (a' := ?_) #[true, true, true, true, true, true, true, true, true, true] rfl rfl (by kernel_rfl) (fun _ _ _ h => h) (Or.inl ⟨by rfl, ?_⟩) ?_ ?_
        rotate_left
        · intro w'
          go_simp
          with_reducible rfl
        rotate_left
        · simp only [Act.put, List.setIfInBounds_toArray, List.set_cons_zero, List.set_cons_succ, i64_w, i32_w]
          rfl
        refine done_ (by kernel_rfl) ?_
        have HW := Aside0.mk (show wrap64 ((k : Int) + ((min k (N - k) : Nat) : Int)) = ((k + min k (N - k) : Nat) : Int) by unfold wrap64; omega)
        go_roundw
        case measure => rw [HW.out]; simp [intOf]; omega
        case rel => (repeat apply Exists.intro); exact ⟨⟨k + min k (N - k), by omega, by omega, by rw [HW.out], ⟨hb4, HBG.out, HCM.out, _, hg4.out, by rw [HSP.out.1]; exact HSZ.out, HSP.out.2⟩⟩, rfl⟩
      · have hltz : ¬ (k : Int) < (N : Int) := by omega
        obtain rfl : k = N := by omega
        go_wp2
        go_ret
        obtain ⟨cur, h1, h2, h3⟩ := HS.out.row
        exact ⟨_, rfl, by have h_ := H.R_pack (k := .i64) (xs := List.replicate k x) HBG.out h1 (by rw [List.length_replicate]; exact hnc) HCM.out h2 (by rw [List.length_replicate, h3]; simp); rw [List.length_replicate] at h_; exact h_, HS.out.below⟩


/-! ### relax_row_int64: function 38 -/
def relax_row_int64.f (a0 : Int) (a1 : Int) : Option (List Int) := (slices_Repeat_int64_int64.f (([a1] : List Int)) a0).bind fun t169 => (some t169)
set_option maxHeartbeats 8000000 in
set_option maxRecDepth 100000 in
theorem relax_row_int64.calls (a0 : Int) (a1 : Int) (r : List Int) (w : World) (h : relax_row_int64.f a0 a1 = some r) :
    Calls Try.prog 38 #[.int .i64 a0, .int .i64 a1] w fun e w' => ∃ v0_ : Value, e = .returned (v0_) ∧ Kd.R (Kd.int .i64) 2 w' w.heap.size (fun _ => True) v0_ r ∧ Below w.heap.size w w' := by
  have HB := Aside0.mk (Below.refl w.heap.size w)
  have H : ((slices_Repeat_int64_int64.f (([a1] : List Int)) a0).bind fun t169 => (some t169)) = some r := h
  clear h
  obtain ⟨y166, hy166⟩ : ∃ y_ : List Int, y_ = (([a1] : List Int)) := ⟨_, rfl⟩
  replace H : ((slices_Repeat_int64_int64.f y166 a0).bind fun t169 => (some t169)) = some r := by first | (rw [hy166]; with_reducible exact H) | (have H2_ := (Option.bind_some _ _).symm.trans H; rw [hy166]; with_reducible exact H2_) | (have H2_ := (Option.bind_some _ _).symm.trans H; with_reducible exact H2_) | with_reducible exact H | (rw [hy166]; exact H) | exact H
  have Ny166 := Aside0.mk hy166
  clear hy166
  replace H := Option.bind_eq_some_iff.mp H
  obtain ⟨t169, A30, H⟩ := H
  replace H : (some t169) = some r := H
  have A3 := Aside0.mk A30
  clear A30
  obtain rfl := Option.some.inj H
  go_enter Try.func38, Try.ntmps38
  go_wp2_with (first | ((with_reducible refine gate_dst (N := 6) rfl ?_); refine Kd.R_lit (Kd.int .i64) _ 2 ?hg (N := 6) ?hd (xs := ([a1] : List Int)) (inner := [.int .i64 a1]) (ok := fun _ => True) (okp := fun _ => True) ?hr ?hp (fun _ hk => hk) trivial (Below.refl _ _) (Nat.le_refl _) (by simp) ?_; (case hd => rfl); (case hg => rfl); (case hr => first | (go_simp; done) | (go_simp; rfl)); (case hp => exact (Reps.one (show Kd.M (Kd.int .i64) _ _ _ a1 [.int .i64 a1] from rfl) (Reps.none _ _))); intro v167 w4 ho5 hb hg_ hnew_; clear hg_ hnew_; (first | rw [← Ny166.out] at ho5 | (simp only [Int.reduceToNat] at ho5; rw [← Ny166.out] at ho5)); have n0_ := Aside0.mk (Kd.R_lower ho5 (below_size (by repeat (first | (with_reducible first | exact HB.out | apply below_alloc | apply pw_below_drewN | apply below_drew1) | exact HB.out)))); have n1_ := Aside0.mk (below_step (by repeat (first | (with_reducible first | exact HB.out | apply below_alloc | apply pw_below_drewN | apply below_drew1) | exact HB.out)) hb); clear HB; have HO168 := n0_; have HB := n1_; clear n0_ n1_; clear hb ho5; obtain ⟨Ao6, co6, eo6⟩ := Kd.R_slice HO168.out; subst eo6) | ((with_reducible refine gate_callee (f := 53) rfl ?_); refine goesL_ (some 8) rfl rfl Try.func53 (by kernel_rfl) rfl #[.slice Ao6 y166.length co6, .int .i64 a0] rfl (by (try simp only [List.map_toArray, List.map_cons, List.map_nil]); first | done | rfl | (simp only [List.length_drop, List.length_take]; rfl)) ?_; (with_reducible refine (slices_Repeat_int64_int64.calls _ _ y166 a0 t169 _ ?side1 ?side2 A3.out).mono ?_); (case side1 => repeat (first | exact (Kd.R_reads' HO168.out).2.2 | (with_reducible refine Kd.C_alloc ?_ _) | (with_reducible refine Kd.C_drewN ?_ _) | (with_reducible refine Kd.C_drew ?_))); (case side2 => exact (Kd.R_reads' HO168.out).2.1); rintro e w7 ⟨v170, rfl, ho0, hb⟩; refine ⟨_, rfl, ?_⟩; have n0_ := Aside0.mk (Kd.R_elder' (by (with_reducible repeat (first | apply Kd.R_alloc | apply Kd.R_drewN | apply Kd.R_drew)); exact HO168.out) (Kd.R_base ho0) hb); have n1_ := Aside0.mk (Kd.R_lower (Kd.R_new' ho0 (Kd.R_lt (by (with_reducible repeat (first | apply Kd.R_alloc | apply Kd.R_drewN | apply Kd.R_drew)); exact HO168.out))) (below_size (by repeat (first | (with_reducible first | exact HB.out | apply below_alloc | apply pw_below_drewN | apply below_drew1) | exact HB.out)))); have n2_ := Aside0.mk (below_step (by repeat (first | (with_reducible first | exact HB.out | apply below_alloc | apply pw_below_drewN | apply below_drew1) | exact HB.out)) hb); clear HO168; clear HB; have HO168 := n0_; have HO171 := n1_; have HB := n2_; clear n0_ n1_ n2_; (try clear hb); (try clear hb2); (try clear hk); (try clear hi); (try clear ho0)))
  go_ret
  exact ⟨_, by first | rfl | (simp [errW_none, errW_some] <;> rfl) | (simp [*, errW_none, errW_some] <;> rfl), by (with_reducible repeat (first | apply Kd.R_alloc | apply Kd.R_drewN | apply Kd.R_drew)); exact Kd.R_mono HO171.out (fun _ hk => trivial), by repeat (first | (with_reducible first | exact HB.out | apply below_alloc | apply pw_below_drewN | apply below_drew1) | exact HB.out)⟩

/-! ### slices_Repeat_int_int: function 54 -/
def slices_Repeat_int_int.f (l0 : List Int) (a1 : Int) : Option (List Int) := if l0.length = 1 then (if 0 ≤ a1 then (if a1 ≤ 1000000 then some (List.replicate a1.toNat (l0.getD 0 0)) else none) else none) else none
theorem slices_Repeat_int_int_mul (n : Nat) (h : n ≤ 1000000) : bits_Mul.f 1 (n : Int) = some (0, (n : Int)) := by
  have h1 : Go.bits .and .u64 ((1 : Nat) : Int) ((4294967295 : Nat) : Int) = ((1 : Nat) : Int) := by rw [Go.u64_and_nat 1 4294967295 (by decide) (by decide)]; rfl
  have h2 : Go.bits .and .u64 ((n : Nat) : Int) ((4294967295 : Nat) : Int) = ((n : Nat) : Int) := by
    rw [Go.u64_and_nat n 4294967295 (by omega) (by decide), show (4294967295 : Nat) = 2 ^ 32 - 1 by decide, Nat.and_two_pow_sub_one_eq_mod]
    omega
  have h3 : Go.bits .and .u64 ((0 : Nat) : Int) ((4294967295 : Nat) : Int) = ((0 : Nat) : Int) := by rw [Go.u64_and_nat 0 4294967295 (by decide) (by decide)]; rfl
  have wu : ∀ x : Int, IntKind.u64.wrap x = x % 18446744073709551616 := fun x => by simp [IntKind.wrap, IntKind.bits, IntKind.signed]
  simp only [Int.natCast_one, Int.cast_ofNat_Int, Int.natCast_zero] at h1 h2 h3
  unfold bits_Mul.f bits_Mul64.f
  rw [h1, h2]
  simp only [Option.bind_some, wu, Int.one_mul]
  have e1 : ((1 : Int) / 4294967296) = 0 := by decide
  have e2 : ((n : Int) / 4294967296) = 0 := by omega
  rw [e1, e2]
  have e3 : ((0 : Int) * (n : Int) % 18446744073709551616 + ((n : Int) % 18446744073709551616) / 4294967296) % 18446744073709551616 = 0 := by omega
  rw [e3, h3]
  simp only [Option.some.injEq, Prod.mk.injEq]
  omega
set_option maxHeartbeats 8000000 in
set_option maxRecDepth 100000 in
theorem slices_Repeat_int_int.calls (A0 : Option Addr) (c0 : Nat) (l0 : List Int) (a1 : Int) (r : List Int) (w : World) (hr0 : Kd.C (Kd.int .i64) w A0 l0.length l0) (hc0 : l0.length ≤ c0) (h : slices_Repeat_int_int.f l0 a1 = some r) :
    Calls Try.prog 54 #[.slice A0 l0.length c0, .int .i64 a1] w fun e w' => ∃ v0_ : Value, e = .returned (v0_) ∧ Kd.R (Kd.int .i64) 3 w' w.heap.size (fun _ => True) v0_ r ∧ Below w.heap.size w w' := by
  have HR0 := Aside0.mk hr0
  have HB := Aside0.mk (Below.refl w.heap.size w)
  unfold slices_Repeat_int_int.f at h
  by_cases h1 : l0.length = 1
  case neg => rw [if_neg h1] at h; exact absurd h (by simp)
  by_cases h2 : 0 ≤ a1
  case neg => rw [if_pos h1, if_neg h2] at h; exact absurd h (by simp)
  by_cases h3 : a1 ≤ 1000000
  case neg => rw [if_pos h1, if_pos h2, if_neg h3] at h; exact absurd h (by simp)
  rw [if_pos h1, if_pos h2, if_pos h3] at h
  obtain rfl := Option.some.inj h
  obtain ⟨x, rfl⟩ := List.length_eq_one_iff.1 h1
  obtain ⟨N, rfl⟩ := Int.eq_ofNat_of_zero_le h2
  have hN : N ≤ 1000000 := by omega
  have HM := Aside0.mk (slices_Repeat_int_int_mul N hN)
  rw [Int.toNat_natCast]
  show Calls Try.prog 54 #[.slice A0 1 c0, .int .i64 (N : Int)] w fun e w' => ∃ v0_ : Value, e = .returned (v0_) ∧ Kd.R (Kd.int .i64) 3 w' w.heap.size (fun _ => True) v0_ (List.replicate N x) ∧ Below w.heap.size w w'
  have HC0 := Aside0.mk hc0
  obtain ⟨m0, hm0⟩ : ∃ m0, m0 = min 1 N := ⟨_, rfl⟩
  have HMIN := Aside0.mk (show min 1 (List.replicate N (0 : Int)).length = m0 by rw [hm0]; simp)
  have HM0 := Aside0.mk hm0
  clear h h1 h2 h3 hr0 hc0 hm0
  go_enter Try.func54, Try.ntmps54
  go_wp2_with (first
    | (go_at_call 65; refine (bits_Mul.calls 1 (N : Int) 0 (N : Int) _ HM.out).mono ?_; rintro e w1 ⟨rfl, hd⟩; have HB1 := Aside0.mk (show Below w.heap.size w w1 by obtain ⟨q_, rfl⟩ := hd; exact pw_below_drewN (Below.refl _ _) q_); clear hd)
    | ((with_reducible refine gate_dst (N := 30) rfl ?_); refine Kd.R_make (Kd.int .i64) (w0 := w) w.heap.size 3 rfl (N := 30) rfl 37 _ _ rfl (N : Int) rfl rfl Try.underlying37 (.int .i64 0) 8 info3 rfl (by decide) (by omega) (0 : Int) (ok := fun _ => True) (okp := fun _ => True) rfl (fun _ hk => hk) trivial (by omega) (by rw [Int.toNat_natCast]; omega) HB1.out (below_size HB1.out) ?_; intro v2 w2 ho hb hg_ hn_; clear hg_ hn_; rw [Int.toNat_natCast] at ho; have HO2 := Aside0.mk ho; have HB2 := Aside0.mk hb; clear ho hb)
    | ((with_reducible refine gate_dst (N := 33) rfl ?_); refine Kd.R_copy (0 : Int) (w0 := w) w.heap.size rfl (.tmp 31) (.tmp 32) 37 37 3 rfl Try.underlying37 (by kernel_rfl) v2 (List.replicate N (0 : Int)) [x] A0 1 c0 (fun _ => True) rfl rfl HO2.out (Kd.C_below HR0.out HB2.out) HB2.out (below_size HB2.out) ?_; intro w3 ho hb hg_; clear hg_; rw [HMIN.out] at ho ⊢; have HO3 := Aside0.mk ho; have HB3 := Aside0.mk hb; clear ho hb)
    )
  obtain ⟨L1, hL1⟩ : ∃ L1 : List Int, L1 = [x].take m0 ++ (List.replicate N (0 : Int)).drop m0 := ⟨_, rfl⟩
  have hlen : L1.length = N := by rw [hL1, HM0.out]; simp; omega
  have HO := Aside0.mk (show Kd.R (Kd.int .i64) 3 w3 w.heap.size (fun _ => True) v2 L1 by rw [hL1]; exact HO3.out)
  have hhead : 1 ≤ N → L1.take 1 = [x] := fun h => by rw [hL1, HM0.out, Nat.min_eq_left h]; simp
  clear HO2 HO3 HB1 HB2 HMIN hL1 HM HR0 HC0
  rcases Nat.eq_zero_or_pos N with rfl | hpos
  · obtain rfl : m0 = 0 := by rw [HM0.out]; rfl
    obtain ⟨Ao, co, rfl⟩ := Kd.R_slice HO.out
    rw [hlen]
    have hL0 : L1 = [] := List.eq_nil_of_length_eq_zero hlen
    have HL := Aside0.mk hL0
    clear hL0 hhead hlen
    go_loopw [8] (fun v8 wr => v8 = .int .i64 0 ∧ Aside0 (wr = w3)) (fun _ _ => 0)
    case atStart => exact ⟨rfl, ⟨rfl⟩⟩
    case round =>
      obtain ⟨rfl, HW⟩ := hrel
      obtain rfl := HW.out
      clear HW
      go_wp2
      go_ret
      exact ⟨_, rfl, by have h_ := HO.out; rw [HL.out] at h_; exact h_, HB3.out⟩
  · obtain ⟨g, cap, cur, hv, hbg, hh, hnc, hcm, hsz, htk⟩ := H.R_unpack HO.out (by omega)
    rw [hlen] at hv hnc htk
    subst hv
    obtain rfl : m0 = 1 := by rw [HM0.out, Nat.min_eq_left hpos]
    have HS := Aside0.mk (show H.repSt .i64 3 w w3 g cap 1 x from ⟨HB3.out, hbg, hcm, cur, hh, hsz, by
      have h1 := congrArg (List.take 1) htk
      rw [List.take_take, Nat.min_eq_left hpos, ← List.map_take, hhead hpos] at h1
      exact h1⟩)
    have HBG := Aside0.mk hbg
    have HCM := Aside0.mk hcm
    clear HO HB3 htk hsz hh hhead hlen hbg hcm
    obtain ⟨i0, hi0, _, hsz0, _⟩ := info_parts info3
    go_loopw [8] (fun v8 wr => ∃ k : Nat, 1 ≤ k ∧ k ≤ N ∧ v8 = .int .i64 k ∧ Aside0 (H.repSt .i64 3 w wr g cap k x)) (fun v8 _ => N - (intOf v8).toNat)
    case atStart => exact ⟨1, Nat.le_refl _, hpos, rfl, HS⟩
    case round =>
      clear HS
      obtain ⟨k, hk1, hkN, rfl, HS⟩ := hrel
      by_cases hlt : k < N
      · have hltz : (k : Int) < (N : Int) := by omega
        have hA := cut_to (P := Try.prog) 37 3 .i64 Try.underlying37 hi0 (some ⟨g, 0, none⟩) N cap (k : Int) (by omega) (by omega) hnc
        have hD := cut_from (P := Try.prog) 37 3 .i64 Try.underlying37 hi0 1 hsz0 (some ⟨g, 0, none⟩) N cap (k : Int) (by omega) (by omega)
        have hA2 : ∀ W : World, (Instr.slice 37 (.slice (some ⟨g, 0, none⟩) N cap) none (some (.int .i64 (k : Int))) none).run Try.prog W = .ok (.slice (some ⟨g, 0, none⟩) k cap) W := fun W => by have h_ := hA W; rw [Int.toNat_natCast] at h_; exact h_
        have hD2 : ∀ W : World, (Instr.slice 37 (.slice (some ⟨g, 0, none⟩) N cap) (some (.int .i64 (k : Int))) none none).run Try.prog W = .ok (.slice (some ⟨g, k, none⟩) (N - k) (cap - k)) W := fun W => by
          have h_ := hD W
          rw [Int.toNat_natCast, if_neg (show ¬ cap = k by omega)] at h_
          rw [h_]
          simp [Addr.add, show ¬ k = 0 by omega]
        clear hA hD
        obtain ⟨cur, hh, hsz, htk⟩ := HS.out.row
        have HSP := Aside0.mk (H.rep_splice (k := .i64) (x := x) (m := k) (j := min k (N - k)) (N := N) hkN (Nat.min_le_left _ _) (by omega) htk)
        have HH := Aside0.mk hh
        have HSZ := Aside0.mk hsz
        have HTK := Aside0.mk htk
        clear hh hsz htk
        have HSRC := Aside0.mk (show ∀ (W : World), W.heap[g]? = some (.cells cur.toArray 3 (0, 0)) → ∀ (j : Nat) (v : Value), (List.replicate (min k (N - k)) (Value.int .i64 x))[j]? = some v → W.cell? ((⟨g, 0, none⟩ : Addr).add j) = some v by
          intro W hW j v hv
          rw [List.getElem?_replicate] at hv
          split at hv
          · injection hv with hv
            subst hv
            have h1 : (cur.take k)[j]? = some (.int .i64 x) := by rw [HTK.out, List.getElem?_replicate, if_pos (by omega)]
            rw [List.getElem?_take] at h1
            split at h1
            · rw [show ((⟨g, 0, none⟩ : Addr).add j) = ⟨g, j, none⟩ by cases j <;> simp [Addr.add], H.cell_list hW]; exact h1
            · cases h1
          · cases hv)
        have HL := Aside0.mk (show k + (List.replicate (min k (N - k)) (Value.int .i64 x)).length ≤ cur.length by have := HSZ.out; simp; omega)
        have H1 := Aside0.mk (show ∀ v ∈ List.replicate (min k (N - k)) (Value.int .i64 x), v.oneCell' = true from fun v hv => by rw [(List.mem_replicate.1 hv).2]; rfl)
        have HMN := Aside0.mk (show (List.replicate (min k (N - k)) (Value.int .i64 x)).length = Nat.min k (N - k) by simp)
        go_wp2
        refine start_ (n := 10) (S := fun w' => True) (ds := []) #[false, false, false, false, false, false, false, false, false, false] (by kernel_rfl) rfl rfl trivial (fun hHeld => ?_)
        refine pure_ (i := 0) (N := some 38) (v := ?_) (a' := ?_) #[true, false, false, false, false, false, false, false, false, false] rfl rfl (by kernel_rfl) (fun _ _ _ h => h) (Or.inl ⟨by rfl, ?_⟩) ?_ ?_
        rotate_left
        · intro w'
          go_simp
          with_reducible rfl
        rotate_left
        · simp only [Act.put, List.setIfInBounds_toArray, List.set_cons_zero, List.set_cons_succ, i64_w, i32_w]
          rfl
        refine pure_ (i := 1) (N := some 39) (v := ?_) (a' := ?_) #[true, true, false, false, false, false, false, false, false, false] rfl rfl (by kernel_rfl) (fun _ _ _ h => h) (Or.inl ⟨by rfl, ?_⟩) ?_ ?_
        rotate_left
        · intro w'
          go_simp
          with_reducible rfl
        rotate_left
        · simp only [Act.put, List.setIfInBounds_toArray, List.set_cons_zero, List.set_cons_succ, i64_w, i32_w]
          rfl
        refine pure_ (i := 2) (N := some 40) (v := ?_) (a' := ?_) #[true, true, true, false, false, false, false, false, false, false] rfl rfl (by kernel_rfl) (fun _ _ _ h => h) (Or.inl ⟨by rfl, ?_⟩) ?_ ?_
        rotate_left
        · intro w'
          go_simp
          with_reducible rfl
        rotate_left
        · simp only [Act.put, List.setIfInBounds_toArray, List.set_cons_zero, List.set_cons_succ, i64_w, i32_w]
          rfl
        refine pure_ (i := 3) (N := some 41) (v := ?_) (a' := ?_) #[true, true, true, true, false, false, false, false, false, false] rfl rfl (by kernel_rfl) (fun _ _ _ h => h) (Or.inl ⟨by rfl, ?_⟩) ?_ ?_
        rotate_left
        · intro w'
          go_simp
          with_reducible rfl
        rotate_left
        · simp only [Act.put, List.setIfInBounds_toArray, List.set_cons_zero, List.set_cons_succ, i64_w, i32_w]
          rfl
        refine pure_ (i := 4) (N := some 42) (v := ?_) (a' := ?_) #[true, true, true, true, true, false, false, false, false, false] rfl rfl (by kernel_rfl) (fun _ _ _ h => h) (Or.inl ⟨by rfl, ?_⟩) ?_ ?_
        rotate_left
        · intro w'
          go_simp
          with_reducible rfl
        rotate_left
        · simp only [Act.put, List.setIfInBounds_toArray, List.set_cons_zero, List.set_cons_succ, i64_w, i32_w]
          rfl
        refine pure_ (i := 5) (N := some 43) (v := ?_) (a' := ?_) #[true, true, true, true, true, true, false, false, false, false] rfl rfl (by kernel_rfl) (fun _ _ _ h => h) (Or.inl ⟨by rfl, ?_⟩) ?_ ?_
        rotate_left
        · intro w'
          go_simp
          with_reducible rfl
        rotate_left
        · simp only [Act.put, List.setIfInBounds_toArray, List.set_cons_zero, List.set_cons_succ, i64_w, i32_w]
          rfl
        refine pure_ (i := 6) (N := some 44) (v := ?_) (a' := ?_) #[true, true, true, true, true, true, true, false, false, false] rfl rfl (by kernel_rfl) (fun _ _ _ h => h) (Or.inl ⟨by rfl, ?_⟩) ?_ ?_
        rotate_left
        · intro w'
          go_simp
          with_reducible rfl
        rotate_left
        · simp only [Act.put, List.setIfInBounds_toArray, List.set_cons_zero, List.set_cons_succ, i64_w, i32_w]
          rfl
        refine one_ (i := 7) (N := some 45) #[true, true, true, true, true, true, true, true, false, false] rfl rfl (by kernel_rfl) (by decide) (fun K hK => ?_)
        refine step_copy_splice rfl (.tmp 41) (.tmp 44) 37 37 rfl 3 Try.underlying37 (by kernel_rfl) (some ⟨g, k, none⟩) (some ⟨g, 0, none⟩) (N - k) (cap - k) k cap rfl rfl g k cur 3 HH.out (List.replicate (min k (N - k)) (.int .i64 x)) HMN.out (fun _ => ⟨rfl, _, rfl, HSRC.out _ HH.out⟩) HL.out H1.out w.heap.size w (below_drew1 HS.out.below) HBG.out ?_
        intro w4 hg4 hb4
        refine hK.out _ _ trivial (fun hHeld => ?_)
        clear hK K
        refine norm_ (a' := ?_) ?_ ?_
        rotate_left
        · show Act.put _ (some 45) _ = _
          simp only [Act.put, List.setIfInBounds_toArray, List.set_cons_zero, List.set_cons_succ, i64_w, i32_w]
          rfl
        refine pure_ (i := 8) (N := some 46) (v := ?_) (a' := ?_) #[true, true, true, true, true, true, true, true, true, false] rfl rfl (by kernel_rfl) (fun _ _ _ h => h) (Or.inl ⟨by rfl, ?_⟩) ?_ ?_
        rotate_left
        · intro w'
          go_simp
          with_reducible rfl
        rotate_left
        · simp only [Act.put, List.setIfInBounds_toArray, List.set_cons_zero, List.set_cons_succ, i64_w, i32_w]
          rfl
        refine pure_ (i := 9) (N := some 8) (v := ?_) (a' := ?_) #[true, true, true, true, true, true, true, true, true, true] rfl rfl (by kernel_rfl) (fun _ _ _ h => h) (Or.inl ⟨by rfl, ?_⟩) ?_ ?_
        rotate_left
        · intro w'
          go_simp
          with_reducible rfl
        rotate_left
        · simp only [Act.put, List.setIfInBounds_toArray, List.set_cons_zero, List.set_cons_succ, i64_w, i32_w]
          rfl
        refine done_ (by kernel_rfl) ?_
        have HW := Aside0.mk (show wrap64 ((k : Int) + ((min k (N - k) : Nat) : Int)) = ((k + min k (N - k) : Nat) : Int) by unfold wrap64; omega)
        go_roundw
        case measure => rw [HW.out]; simp [intOf]; omega
        case rel => (repeat apply Exists.intro); exact ⟨⟨k + min k (N - k), by omega, by omega, by rw [HW.out], ⟨hb4, HBG.out, HCM.out, _, hg4.out, by rw [HSP.out.1]; exact HSZ.out, HSP.out.2⟩⟩, rfl⟩
      · have hltz : ¬ (k : Int) < (N : Int) := by omega
        obtain rfl : k = N := by omega
        go_wp2
        go_ret
        obtain ⟨cur, h1, h2, h3⟩ := HS.out.row
        exact ⟨_, rfl, by have h_ := H.R_pack (k := .i64) (xs := List.replicate k x) HBG.out h1 (by rw [List.length_replicate]; exact hnc) HCM.out h2 (by rw [List.length_replicate, h3]; simp); rw [List.length_replicate] at h_; exact h_, HS.out.below⟩


/-! ### relax_row_int: function 39 -/
def relax_row_int.f (a0 : Int) (a1 : Int) : Option (List Int) := (slices_Repeat_int_int.f (([a1] : List Int)) a0).bind fun t175 => (some t175)
set_option maxHeartbeats 8000000 in
set_option maxRecDepth 100000 in
theorem relax_row_int.calls (a0 : Int) (a1 : Int) (r : List Int) (w : World) (h : relax_row_int.f a0 a1 = some r) :
    Calls Try.prog 39 #[.int .i64 a0, .int .i64 a1] w fun e w' => ∃ v0_ : Value, e = .returned (v0_) ∧ Kd.R (Kd.int .i64) 3 w' w.heap.size (fun _ => True) v0_ r ∧ Below w.heap.size w w' := by
  have HB := Aside0.mk (Below.refl w.heap.size w)
  have H : ((slices_Repeat_int_int.f (([a1] : List Int)) a0).bind fun t175 => (some t175)) = some r := h
  clear h
  obtain ⟨y172, hy172⟩ : ∃ y_ : List Int, y_ = (([a1] : List Int)) := ⟨_, rfl⟩
  replace H : ((slices_Repeat_int_int.f y172 a0).bind fun t175 => (some t175)) = some r := by first | (rw [hy172]; with_reducible exact H) | (have H2_ := (Option.bind_some _ _).symm.trans H; rw [hy172]; with_reducible exact H2_) | (have H2_ := (Option.bind_some _ _).symm.trans H; with_reducible exact H2_) | with_reducible exact H | (rw [hy172]; exact H) | exact H
  have Ny172 := Aside0.mk hy172
  clear hy172
  replace H := Option.bind_eq_some_iff.mp H
  obtain ⟨t175, A30, H⟩ := H
  replace H : (some t175) = some r := H
  have A3 := Aside0.mk A30
  clear A30
  obtain rfl := Option.some.inj H
  go_enter Try.func39, Try.ntmps39
  go_wp2_with (first | ((with_reducible refine gate_dst (N := 6) rfl ?_); refine Kd.R_lit (Kd.int .i64) _ 3 ?hg (N := 6) ?hd (xs := ([a1] : List Int)) (inner := [.int .i64 a1]) (ok := fun _ => True) (okp := fun _ => True) ?hr ?hp (fun _ hk => hk) trivial (Below.refl _ _) (Nat.le_refl _) (by simp) ?_; (case hd => rfl); (case hg => rfl); (case hr => first | (go_simp; done) | (go_simp; rfl)); (case hp => exact (Reps.one (show Kd.M (Kd.int .i64) _ _ _ a1 [.int .i64 a1] from rfl) (Reps.none _ _))); intro v173 w4 ho5 hb hg_ hnew_; clear hg_ hnew_; (first | rw [← Ny172.out] at ho5 | (simp only [Int.reduceToNat] at ho5; rw [← Ny172.out] at ho5)); have n0_ := Aside0.mk (Kd.R_lower ho5 (below_size (by repeat (first | (with_reducible first | exact HB.out | apply below_alloc | apply pw_below_drewN | apply below_drew1) | exact HB.out)))); have n1_ := Aside0.mk (below_step (by repeat (first | (with_reducible first | exact HB.out | apply below_alloc | apply pw_below_drewN | apply below_drew1) | exact HB.out)) hb); clear HB; have HO174 := n0_; have HB := n1_; clear n0_ n1_; clear hb ho5; obtain ⟨Ao6, co6, eo6⟩ := Kd.R_slice HO174.out; subst eo6) | ((with_reducible refine gate_callee (f := 54) rfl ?_); refine goesL_ (some 8) rfl rfl Try.func54 (by kernel_rfl) rfl #[.slice Ao6 y172.length co6, .int .i64 a0] rfl (by (try simp only [List.map_toArray, List.map_cons, List.map_nil]); first | done | rfl | (simp only [List.length_drop, List.length_take]; rfl)) ?_; (with_reducible refine (slices_Repeat_int_int.calls _ _ y172 a0 t175 _ ?side1 ?side2 A3.out).mono ?_); (case side1 => repeat (first | exact (Kd.R_reads' HO174.out).2.2 | (with_reducible refine Kd.C_alloc ?_ _) | (with_reducible refine Kd.C_drewN ?_ _) | (with_reducible refine Kd.C_drew ?_))); (case side2 => exact (Kd.R_reads' HO174.out).2.1); rintro e w7 ⟨v176, rfl, ho0, hb⟩; refine ⟨_, rfl, ?_⟩; have n0_ := Aside0.mk (Kd.R_elder' (by (with_reducible repeat (first | apply Kd.R_alloc | apply Kd.R_drewN | apply Kd.R_drew)); exact HO174.out) (Kd.R_base ho0) hb); have n1_ := Aside0.mk (Kd.R_lower (Kd.R_new' ho0 (Kd.R_lt (by (with_reducible repeat (first | apply Kd.R_alloc | apply Kd.R_drewN | apply Kd.R_drew)); exact HO174.out))) (below_size (by repeat (first | (with_reducible first | exact HB.out | apply below_alloc | apply pw_below_drewN | apply below_drew1) | exact HB.out)))); have n2_ := Aside0.mk (below_step (by repeat (first | (with_reducible first | exact HB.out | apply below_alloc | apply pw_below_drewN | apply below_drew1) | exact HB.out)) hb); clear HO174; clear HB; have HO174 := n0_; have HO177 := n1_; have HB := n2_; clear n0_ n1_ n2_; (try clear hb); (try clear hb2); (try clear hk); (try clear hi); (try clear ho0)))
  go_ret
  exact ⟨_, by first | rfl | (simp [errW_none, errW_some] <;> rfl) | (simp [*, errW_none, errW_some] <;> rfl), by (with_reducible repeat (first | apply Kd.R_alloc | apply Kd.R_drewN | apply Kd.R_drew)); exact Kd.R_mono HO177.out (fun _ hk => trivial), by repeat (first | (with_reducible first | exact HB.out | apply below_alloc | apply pw_below_drewN | apply below_drew1) | exact HB.out)⟩

/-! ### slices_Clone_int64_int64: function 55 -/
def slices_Clone_int64_int64.f (l0 : List Int) : Option (List Int) := if l0.length < 17592186044416 then some l0 else none
theorem slices_Clone_int64_int64_nil : Aside0 (∀ (a : Option Addr) (n c : Nat) (w : World), Sem.run Try.prog (binOp .eql 23 (.slice a n c) (.slice none 0 0)) w = .ok (.bool a.isNone) w) := ⟨fun a n c w => Go.run_eql_slice_nil w 23 2 a n c Try.underlying23⟩
set_option maxHeartbeats 8000000 in
set_option maxRecDepth 100000 in
theorem slices_Clone_int64_int64.calls (A0 : Option Addr) (c0 : Nat) (l0 : List Int) (r : List Int) (w : World) (hr0 : Kd.C (Kd.int .i64) w A0 l0.length l0) (hc0 : l0.length ≤ c0) (h : slices_Clone_int64_int64.f l0 = some r) :
    Calls Try.prog 55 #[.slice A0 l0.length c0] w fun e w' => ∃ v0_ : Value, e = .returned (v0_) ∧ Kd.R (Kd.int .i64) 2 w' w.heap.size (fun _ => True) v0_ r ∧ Below w.heap.size w w' := by
  have HR0 := Aside0.mk hr0
  have HB := Aside0.mk (Below.refl w.heap.size w)
  unfold slices_Clone_int64_int64.f at h
  by_cases hl : l0.length < 17592186044416
  · rw [if_pos hl] at h
    obtain rfl := Option.some.inj h
    have LM := Aside0.mk hl
    clear h hr0 hl
    cases A0 with
    | none =>
      have hn := slices_Clone_int64_int64_nil.out none l0.length c0
      have hnil : l0 = [] := by
        rcases Nat.eq_zero_or_pos l0.length with h0 | h0
        · exact List.eq_nil_of_length_eq_zero h0
        · obtain ⟨ad, e, _⟩ := HR0.out.2.2 h0
          cases e
      have HN := Aside0.mk hnil
      clear hnil
      go_enter Try.func55, Try.ntmps55
      go_wp2
      go_ret
      exact ⟨.slice none 0 0, rfl, by rw [HN.out]; exact Kd.R_nil _ _ _ _ _, HB.out⟩
    | some ad =>
      have hn := slices_Clone_int64_int64_nil.out (some ad) l0.length c0
      go_enter Try.func55, Try.ntmps55
      go_wp2_with (first
        | ((with_reducible refine gate_dst (N := 5) rfl ?_); refine Kd.R_lit (Kd.int .i64) _ 2 ?hg (N := 5) ?hd (xs := []) (inner := []) (ok := fun _ => True) (okp := fun _ => True) ?hr ?hp (fun _ hk => hk) trivial (Below.refl _ _) (Nat.le_refl _) (by simp) ?_; (case hd => rfl); (case hg => rfl); (case hr => first | (go_simp; done) | (go_simp; rfl)); (case hp => exact (Reps.none _ _)); intro v1 w1 ho hb hg_ hnew_; clear hg_ hnew_; have HO1 := Aside0.mk ho; have HB1 := Aside0.mk hb; clear ho hb)
        | (at_builtin; refine Kd.R_append_rows (Kd.int .i64) (w0 := w) w.heap.size rfl (.tmp 5) (.tmp 6) 23 2 (.int .i64 0) 8 rfl Try.underlying23 info2 rfl (by decide) (by omega) v1 [] l0 _ _ _ (fun _ => True) (fun _ => False) rfl rfl HO1.out (Kd.C_below HR0.out HB1.out) (fun _ _ h => h) (fun _ h => h.elim) (fun _ _ => trivial) HB1.out (below_size HB1.out) (by have := LM.out; simp only [List.length_nil]; omega) ?_; intro v2 w2 ho hb hg hat; clear hg hat; have HO2 := Aside0.mk ho; have HB2 := Aside0.mk hb; clear ho hb))
      go_ret
      exact ⟨v2, rfl, HO2.out, HB2.out⟩
  · rw [if_neg hl] at h
    exact absurd h (by simp)


/-! ### relax_next: function 40 -/
def relax_next_go (had : List Int) : List S48 → Int → List Int → List Int → Option (List Int × List Int)
  | [], _, has, by_ => some (has, by_)
  | e :: r, i, has, by_ => if 0 ≤ e.f0 then (if e.f0 < (had.length : Int) then (if 0 ≤ e.f1 then (if e.f1 < (has.length : Int) then (if e.f1 < (by_.length : Int) then (if wrap64 (rd had e.f0 + e.f2) < rd has e.f1 then relax_next_go had r (i + 1) (has.set e.f1.toNat (wrap64 (rd had e.f0 + e.f2))) (by_.set e.f1.toNat i) else relax_next_go had r (i + 1) has by_) else none) else none) else none) else none) else none
def relax_next.f (l0 : List Int) (l1 : List S48) : Option (List Int × List Int) :=
  if l1.length ≤ 1000000 then (slices_Clone_int64_int64.f l0).bind fun has => (relax_row_int.f (l0.length : Int) (-1)).bind fun by_ => relax_next_go l0 l1 0 has by_ else none
structure relax_next_St (w W : World) (v6 v7 : Value) (has by_ : List Int) : Prop where
  below : Below w.heap.size w W
  has : Kd.R (Kd.int .i64) 2 W w.heap.size (fun k => some k ≠ v7.ownBlock) v6 has
  by_ : Kd.R (Kd.int .i64) 3 W w.heap.size (fun k => some k ≠ v6.ownBlock) v7 by_
theorem relax_next_St_below {w W W1 : World} {v6 v7 : Value} {has by_ : List Int} (h : relax_next_St w W v6 v7 has by_) (hb : Below W.heap.size W W1) : relax_next_St w W1 v6 v7 has by_ := ⟨below_step h.below hb, Kd.R_below h.has hb, Kd.R_below h.by_ hb⟩
theorem relax_next_St_put6 {w W : World} {g n c : Nat} {v7 : Value} {has by_ : List Int} (h : relax_next_St w W (.slice (some ⟨g, 0, none⟩) n c) v7 has by_) (hn : n = has.length) (hg : w.heap.size ≤ g) (a x : Int) : relax_next_St w (W.setCell ⟨g, a.toNat, none⟩ (.int .i64 x)) (.slice (some ⟨g, 0, none⟩) n c) v7 (has.set a.toNat x) by_ := by
  subst hn
  exact ⟨below_set h.below hg, (Kd.R_put h.has a x).1, Kd.R_far h.by_ (fun k hk => by simp [Value.ownBlock] at hk; exact hk) _⟩
theorem relax_next_St_put7 {w W : World} {g n c : Nat} {v6 : Value} {has by_ : List Int} (h : relax_next_St w W v6 (.slice (some ⟨g, 0, none⟩) n c) has by_) (hn : n = by_.length) (hg : w.heap.size ≤ g) (a x : Int) : relax_next_St w (W.setCell ⟨g, a.toNat, none⟩ (.int .i64 x)) v6 (.slice (some ⟨g, 0, none⟩) n c) has (by_.set a.toNat x) := by
  subst hn
  exact ⟨below_set h.below hg, Kd.R_far h.has (fun k hk => by simp [Value.ownBlock] at hk; exact hk) _, (Kd.R_put h.by_ a x).1⟩
set_option maxHeartbeats 8000000 in
set_option maxRecDepth 100000 in
theorem relax_next.calls (A0 : Option Addr) (c0 : Nat) (l0 : List Int) (A1 : Option Addr) (c1 : Nat) (l1 : List S48) (r1 : List Int) (r2 : List Int) (w : World) (hr0 : Kd.C (Kd.int .i64) w A0 l0.length l0) (hc0 : l0.length ≤ c0) (hr1 : Kd.C k48 w A1 l1.length l1) (hc1 : l1.length ≤ c1) (h : relax_next.f l0 l1 = some (r1, r2)) :
    Calls Try.prog 40 #[.slice A0 l0.length c0, .slice A1 l1.length c1] w fun e w' => ∃ v0_ v1_ : Value, e = .returned (.tuple #[v0_, v1_]) ∧ Kd.R (Kd.int .i64) 2 w' w.heap.size (fun k_ => (w.heap.size ≤ k_) ∧ some k_ ≠ (v1_ : Value).ownBlock) v0_ r1 ∧ Kd.R (Kd.int .i64) 3 w' w.heap.size (fun k_ => (w.heap.size ≤ k_) ∧ some k_ ≠ (v0_ : Value).ownBlock) v1_ r2 ∧ Below w.heap.size w w' := by
  unfold relax_next.f at h
  by_cases hn : l1.length ≤ 1000000
  case neg => rw [if_neg hn] at h; cases h
  rw [if_pos hn] at h
  obtain ⟨has0, hcl, h⟩ := Option.bind_eq_some_iff.mp h
  obtain ⟨by0, hrw, h⟩ := Option.bind_eq_some_iff.mp h
  have HR0 := Aside0.mk hr0
  have HR1 := Aside0.mk hr1
  have HC0 := Aside0.mk hc0
  have HCL := Aside0.mk hcl
  have HRW := Aside0.mk hrw
  have HH := Aside0.mk h
  have hm0 := Kd.C_max hr0
  clear h hr0 hr1 hcl hrw hc0 hc1
  have hu_ := Try.underlying48
  go_enter Try.func40, Try.ntmps40
  go_wp2_with (first
    | (go_at_call 55; refine (slices_Clone_int64_int64.calls A0 c0 l0 has0 _ HR0.out HC0.out HCL.out).mono ?_; rintro e w1 ⟨v6, rfl, h6, hb1⟩; have H6 := Aside0.mk h6; have HB1 := Aside0.mk hb1; clear h6 hb1)
    | (go_at_call 39; refine (relax_row_int.calls (l0.length : Int) (-1) by0 _ HRW.out).mono ?_; rintro e w2 ⟨v7, rfl, h7, hb2⟩; have HS := Aside0.mk (show relax_next_St w w2 v6 v7 has0 by0 from ⟨below_step HB1.out hb2, Kd.R_mono (Kd.R_elder H6.out h7 hb2) (fun k hk => hk.2), Kd.R_lower (Kd.R_mono (Kd.R_newR h7 H6.out) (fun k hk => hk.2)) HB1.out.size⟩); clear h7 hb2 HB1 H6; obtain ⟨A6, c6, rfl⟩ := Kd.R_slice HS.out.has; obtain ⟨A7, c7, rfl⟩ := Kd.R_slice HS.out.by_))
  go_loopg [18] l1.length (fun d v18 wr => ∃ (i : Nat) (has by_ : List Int), i + d = l1.length ∧ v18 = .int .i64 i ∧ Aside0 (relax_next_go l0 (l1.drop i) (i : Int) has by_ = some (r1, r2)) ∧ Aside0 (has.length = has0.length ∧ by_.length = by0.length) ∧ Aside0 (relax_next_St w wr (.slice A6 has0.length c6) (.slice A7 by0.length c7) has by_))
  case atStart => exact ⟨0, has0, by0, by omega, rfl, HH, ⟨rfl, rfl⟩, HS⟩
  case round =>
    clear HS HH
    obtain ⟨i, has, by_, hi, rfl, HG, HL, HS⟩ := hrel
    by_cases hlt : i < l1.length
    · have hltz : (i : Int) < (l1.length : Int) := by omega
      have HBr := Aside0.mk HS.out.below
      obtain ⟨ad1, e, hx0, hx1, hx2, hx3, hx4, hx5⟩ := at_T48 HR1.out (i : Int) (by omega) hltz
      cases e
      replace hx0 := (HBr.out.cell (World.block_lt_of_cell? w _ hx0)).trans hx0; simp only [Int.toNat_natCast] at hx0
      replace hx1 := (HBr.out.cell (World.block_lt_of_cell? w _ hx1)).trans hx1; simp only [Int.toNat_natCast] at hx1
      replace hx2 := (HBr.out.cell (World.block_lt_of_cell? w _ hx2)).trans hx2; simp only [Int.toNat_natCast] at hx2
      replace hx3 := (HBr.out.cell (World.block_lt_of_cell? w _ hx3)).trans hx3; simp only [Int.toNat_natCast] at hx3
      replace hx4 := (HBr.out.cell (World.block_lt_of_cell? w _ hx4)).trans hx4; simp only [Int.toNat_natCast] at hx4
      replace hx5 := (HBr.out.cell (World.block_lt_of_cell? w _ hx5)).trans hx5; simp only [Int.toNat_natCast] at hx5
      have hy : rd_T48 l1 (i : Int) = l1[i] := by show l1.getD _ _ = _; simp [List.getD_eq_getElem?_getD, List.getElem?_eq_getElem hlt]
      rw [hy] at hx0 hx1 hx2 hx3 hx4 hx5
      have hg := HG.out
      rw [List.drop_eq_getElem_cons hlt] at hg
      clear hy HG
      generalize l1[i] = s at hx0 hx1 hx2 hx3 hx4 hx5 hg
      unfold relax_next_go at hg
      by_cases c1 : 0 ≤ s.f0
      case neg => rw [if_neg c1] at hg; cases hg
      rw [if_pos c1] at hg
      by_cases c2 : s.f0 < (l0.length : Int)
      case neg => rw [if_neg c2] at hg; cases hg
      rw [if_pos c2] at hg
      by_cases c3 : 0 ≤ s.f1
      case neg => rw [if_neg c3] at hg; cases hg
      rw [if_pos c3] at hg
      by_cases c4 : s.f1 < (has.length : Int)
      case neg => rw [if_neg c4] at hg; cases hg
      rw [if_pos c4] at hg
      by_cases c5 : s.f1 < (by_.length : Int)
      case neg => rw [if_neg c5] at hg; cases hg
      rw [if_pos c5] at hg
      obtain ⟨ad0, e, hy0⟩ := Kd.at_int HR0.out s.f0 c1 c2
      cases e
      have hy0' : ∀ o : Obj, (wr.alloc o).cell? (ad0.add s.f0.toNat) = some (.int .i64 (rd l0 s.f0)) := fun o => ((below_alloc HBr.out o).cell (World.block_lt_of_cell? w _ hy0)).trans hy0
      clear hy0
      obtain ⟨g6, cap6, e6, hb6, hl6, _⟩ := Kd.R_form HS.out.has (by omega)
      obtain ⟨g7, cap7, e7, hb7, hl7, _⟩ := Kd.R_form HS.out.by_ (by omega)
      injection e6 with e61 e62 e63
      injection e7 with e71 e72 e73
      subst e61 e63 e71 e73
      have hl6' : s.f1 < (has0.length : Int) := by omega
      have hl7' : s.f1 < (by0.length : Int) := by omega
      have hne67 : g6 ≠ g7 := fun e => by have := HS.out.has.1 g6 (by simp [Value.ownBlock]); simp [Value.ownBlock] at this; exact this e
      have HE62 := Aside0.mk e62
      have HE72 := Aside0.mk e72
      clear e62 e72
      have hR6 := HS.out.has
      have hR7 := HS.out.by_
      rw [HE62.out] at hR6
      rw [HE72.out] at hR7
      have hq6 := (Kd.R_cell (0 : Int) hR6 s.f1 c3 c4).1
      have hq7 := (Kd.R_cell (0 : Int) hR7 s.f1 c3 c5).1
      have hf6 := (Kd.R_cell (0 : Int) hR6 s.f1 c3 c4).2
      have hf7 := (Kd.R_cell (0 : Int) hR7 s.f1 c3 c5).2
      have hq6' : ∀ o : Obj, (wr.alloc o).cell? ⟨g6, s.f1.toNat, none⟩ = some (.int .i64 (rd has s.f1)) := fun o => ((below_alloc (Below.refl wr.heap.size wr) o).cell (p := ⟨g6, s.f1.toNat, none⟩) hl6).trans hq6
      have hf6' : ∀ o : Obj, (wr.alloc o).frozen? ⟨g6, s.f1.toNat, none⟩ = false := fun o => ((below_alloc (Below.refl wr.heap.size wr) o).frozen (p := ⟨g6, s.f1.toNat, none⟩) hl6).trans hf6
      obtain ⟨z7, hz7⟩ : ∃ z7, z7 = Value.int .i64 (rd by_ s.f1) := ⟨_, rfl⟩
      have hq7' : ∀ o : Obj, (wr.alloc o).cell? ⟨g7, s.f1.toNat, none⟩ = some z7 := fun o => by rw [hz7]; exact ((below_alloc (Below.refl wr.heap.size wr) o).cell (p := ⟨g7, s.f1.toNat, none⟩) hl7).trans hq7
      have hf7' : ∀ o : Obj, (wr.alloc o).frozen? ⟨g7, s.f1.toNat, none⟩ = false := fun o => ((below_alloc (Below.refl wr.heap.size wr) o).frozen (p := ⟨g7, s.f1.toNat, none⟩) hl7).trans hf7
      have HR6 := Aside0.mk hR6
      have HR7 := Aside0.mk hR7
      clear hR6 hR7 hq6 hq7 hf6 hf7 hz7
      have HF := Aside0.mk hg
      clear hg
      go_wp2
      go_quiet (fail)
      generalize wrap64 (rd l0 s.f0 + s.f2) = x at HF ⊢
      by_cases c6 : x < rd has s.f1
      · have c6b := decide_eq_true c6
        go_wp2
        obtain ⟨W, hW⟩ : ∃ W, W = ((wr.alloc (.cells #[.int .i64 s.f0, .int .i64 s.f1, .int .i64 s.f2, .int .i64 s.f3.f0, .int .i64 s.f3.f1, .bool s.f4] 48 (0, 0))).drewN nq) := ⟨_, rfl⟩
        have hv1 : W.cell? ⟨wr.heap.size, 1, none⟩ = some (.int .i64 s.f1) := by rw [hW]; exact (blk_cell (blk_new wr _) 1).trans rfl
        have hw6 : W.cell? ⟨g6, s.f1.toNat, none⟩ = some (.int .i64 (rd has s.f1)) := by rw [hW]; exact hq6' _
        have hw7 : W.cell? ⟨g7, s.f1.toNat, none⟩ = some z7 := by rw [hW]; exact hq7' _
        have hfw6 : W.frozen? ⟨g6, s.f1.toNat, none⟩ = false := by rw [hW]; exact hf6' _
        have hfw7 : W.frozen? ⟨g7, s.f1.toNat, none⟩ = false := by rw [hW]; exact hf7' _
        have hn6 : wr.heap.size ≠ g6 := by omega
        have hn7 : wr.heap.size ≠ g7 := by omega
        have hbW : Below wr.heap.size wr W := by rw [hW]; exact pw_below_drewN (below_alloc (Below.refl _ _) _) nq
        rw [← hW]
        have HBW := Aside0.mk hbW
        clear hW hbW hq6' hq7' hf6' hf7' hy0'
        rw [if_pos c6] at HF
        have HFF := HF
        clear HF c6
        have HSW := relax_next_St_below HS.out HBW.out
        have HE1 := Aside0.mk (relax_next_St_put7 (relax_next_St_put6 HSW HE62.out hb6 s.f1 x) HE72.out hb7 s.f1 (i : Int))
        have HE2 := Aside0.mk (relax_next_St_put6 (relax_next_St_put7 HSW HE72.out hb7 s.f1 (i : Int)) HE62.out hb6 s.f1 x)
        have HLN := Aside0.mk (show (has.set s.f1.toNat x).length = has0.length ∧ (by_.set s.f1.toNat (i : Int)).length = by0.length by rw [List.length_set, List.length_set]; exact HL.out)
        have HGN := Aside0.mk (show relax_next_go l0 (l1.drop (i + 1)) ((i + 1 : Nat) : Int) (has.set s.f1.toNat x) (by_.set s.f1.toNat (i : Int)) = some (r1, r2) from HFF.out)
        clear HFF HSW HS
        go_region
        all_goals
          go_wp2_with (fail)
          go_roundg (gk - 1)
          case measure => omega
          case rel => exact ⟨i + 1, _, _, by omega, by go_num, HGN, HLN, ⟨by first | exact HE1.out | exact HE2.out | exact relax_next_St_below HE1.out (below_drew (Below.refl _ _)) | exact relax_next_St_below HE2.out (below_drew (Below.refl _ _))⟩⟩
      · rw [if_neg c6] at HF
        have c6b := decide_eq_false c6
        have HGN := Aside0.mk (show relax_next_go l0 (l1.drop (i + 1)) ((i + 1 : Nat) : Int) has by_ = some (r1, r2) from HF.out)
        clear HF c6
        go_wp2_with (fail)
        go_roundg (gk - 1)
        case measure => omega
        case rel => exact ⟨i + 1, _, _, by omega, by go_num, HGN, HL, ⟨relax_next_St_below HS.out (pw_below_drewN (below_alloc (Below.refl _ _) _) _)⟩⟩
    · have hltz : ¬ (i : Int) < (l1.length : Int) := by omega
      have hg := HG.out
      rw [List.drop_of_length_le (by omega)] at hg
      obtain ⟨h1, h2⟩ := Prod.mk.inj (Option.some.inj (show some (has, by_) = some (r1, r2) from hg))
      subst h1 h2
      clear hg HG
      go_wp2_with (fail)
      have h6 := HS.out.has
      have h7 := HS.out.by_
      exact bodyPost_ret (v := .tuple #[.slice A6 has0.length c6, .slice A7 by0.length c7]) (by simp [results, Try.results40, go_sem]) rfl ⟨_, _, rfl, Kd.R_mono (Kd.R_bound h6) (fun k hk => ⟨hk.2.1, hk.1⟩), Kd.R_mono (Kd.R_bound h7) (fun k hk => ⟨hk.2.1, hk.1⟩), HS.out.below⟩


end Go.Proofs.Ytacjlaiddnfpdaa.LD
