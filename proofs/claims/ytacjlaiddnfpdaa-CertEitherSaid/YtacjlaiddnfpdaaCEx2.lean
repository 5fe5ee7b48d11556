-- WRITTEN FOR THIS CLAIM by wip/tools/mp.py, a program of this project that drives the kit's print; the functions that the print does not take are this project's own texts.
import Derived.Test.YtacjlaiddnfpdaaCEx0
namespace Go.Proofs.Ytacjlaiddnfpdaa.CE
open Go.RowKit Go.Proofs.YtacjlaiddnfpdaaW.PrintWords Go.Proofs.YtacjlaiddnfpdaaW.PrintLast Go.Proofs.YtacjlaiddnfpdaaW.PrintMore
attribute [local go_sem] max2_int min2_int max_two min_two max_three min_three max_four min_four   -- for this text's walks alone
set_option linter.unusedVariables false
set_option linter.unusedSimpArgs false

/-! ### api_Edge_56: function 56 -/
/-- Where the first one stands that is such; -1. -/
def api_Edge_56_idx (p : S48 → Bool) (l : List S48) : Int := if l.any p = true then (l.findIdx p : Int) else -1
theorem api_Edge_56_hit (p : S48 → Bool) (l : List S48) (k : Nat) (hk : k < l.length) (hp : p l[k] = true) (hn : ∀ j (h : j < l.length), j < k → p l[j] = false) : api_Edge_56_idx p l = (k : Int) := by
  unfold api_Edge_56_idx
  rw [if_pos (List.any_eq_true.2 ⟨_, List.getElem_mem hk, hp⟩)]
  congr 1
  rw [List.findIdx_eq hk]
  exact ⟨hp, fun j hj => by simpa using hn j (by omega) hj⟩
theorem api_Edge_56_miss (p : S48 → Bool) (l : List S48) (hn : ∀ j (h : j < l.length), p l[j] = false) : api_Edge_56_idx p l = -1 := by
  unfold api_Edge_56_idx
  rw [if_neg]
  intro h
  obtain ⟨x, hx, hp⟩ := List.any_eq_true.1 h
  obtain ⟨j, hj, rfl⟩ := List.getElem_of_mem hx
  rw [hn j hj] at hp
  exact absurd hp (by decide)
set_option maxHeartbeats 8000000 in
set_option maxRecDepth 100000 in
theorem api_Edge_56.calls (A0 : Option Addr) (c0 : Nat) (l0 : List S48) (p : S48 → Bool) (g : Nat) (lb : Array Value) (eg : ∀ args w, (callFunc g args).run Try.prog w = .ok (.enter g args) w) (w : World) (hr0 : Kd.C k48 w A0 l0.length l0)
    (hp : ∀ (W : World) (x : S48), x ∈ l0 → Below w.heap.size w W → Calls Try.prog g (#[(fun x : S48 => Value.agg #[.int .i64 x.f0, .int .i64 x.f1, .int .i64 x.f2, .int .i64 x.f3.f0, .int .i64 x.f3.f1, .bool x.f4]) x] ++ lb) W fun e w' => e = .returned (.bool (p x)) ∧ Below w.heap.size w w') :
    Calls Try.prog 56 #[.slice A0 l0.length c0, .func (.func g) #[] lb] w fun e w' => e = .returned (.int .i64 (api_Edge_56_idx p l0)) ∧ Below w.heap.size w w' := by
  have HR0 := Aside0.mk hr0
  have HP := Aside0.mk hp
  have HB := Aside0.mk (Below.refl w.heap.size w)
  have hmax : l0.length ≤ 9223372036854775807 := Kd.C_max hr0
  clear hr0 hp
  go_enter Try.func56, Try.ntmps56
  go_wp2
  go_loopg [5, 8] l0.length (fun gg _ s8 wr => ∃ k : Nat, k ≤ l0.length ∧ l0.length - k ≤ gg ∧ s8 = .int .i64 k ∧ Aside0 (Below w.heap.size w wr) ∧ Aside0 (∀ j (h : j < l0.length), j < k → p l0[j] = false))
  case atStart => exact ⟨0, Nat.zero_le _, by omega, rfl, HB, ⟨fun j _ hj => absurd hj (Nat.not_lt_zero _)⟩⟩
  case round =>
    obtain ⟨k, hk, hg, rfl, HBr, HN⟩ := hrel
    by_cases hlt : k < l0.length
    · have hltz : (k : Int) < (l0.length : Int) := by omega
      obtain ⟨ad, e, hx0, hx1, hx2, hx3, hx4, hx5⟩ := at_T48 HR0.out (k : Int) (by omega) (by omega)
      cases e
      replace hx0 := (HBr.out.cell (World.block_lt_of_cell? w _ hx0)).trans hx0; simp only [Int.toNat_natCast] at hx0; replace hx1 := (HBr.out.cell (World.block_lt_of_cell? w _ hx1)).trans hx1; simp only [Int.toNat_natCast] at hx1; replace hx2 := (HBr.out.cell (World.block_lt_of_cell? w _ hx2)).trans hx2; simp only [Int.toNat_natCast] at hx2; replace hx3 := (HBr.out.cell (World.block_lt_of_cell? w _ hx3)).trans hx3; simp only [Int.toNat_natCast] at hx3; replace hx4 := (HBr.out.cell (World.block_lt_of_cell? w _ hx4)).trans hx4; simp only [Int.toNat_natCast] at hx4; replace hx5 := (HBr.out.cell (World.block_lt_of_cell? w _ hx5)).trans hx5; simp only [Int.toNat_natCast] at hx5
      have hu_ := Try.underlying48
      have hcall := HP.out wr l0[k] (List.getElem_mem hlt) HBr.out
      have hy : rd_T48 l0 (k : Int) = l0[k] := by first | (simp [rd, rdOf, List.getD_eq_getElem?_getD, List.getElem?_eq_getElem hlt]; done) | (show l0.getD _ _ = _; simp [List.getD_eq_getElem?_getD, List.getElem?_eq_getElem hlt])
      have HY := Aside0.mk hy
      generalize hz : l0[k] = y at hcall hy
      rw [hy] at hx0 hx1 hx2 hx3 hx4 hx5
      have HZ := Aside0.mk hz
      clear hy hz
      cases hq : p y with
      | true =>
        rw [hq] at hcall
        go_wp2_with (go_at_fn g; refine hcall.mono ?_; rintro e w' ⟨rfl, hb'⟩)
        go_ret
        refine ⟨?_, hb'⟩
        rw [api_Edge_56_hit p l0 k hlt (by rw [HZ.out]; exact hq) HN.out]
        rfl
      | false =>
        rw [hq] at hcall
        go_wp2_with (go_at_fn g; refine hcall.mono ?_; rintro e w' ⟨rfl, hb'⟩)
        go_roundg (l0.length - (k + 1))
        case measure => omega
        case rel =>
          refine ⟨k + 1, by omega, by omega, by go_num, ⟨hb'⟩, ⟨fun j h hj => ?_⟩⟩
          by_cases e : j = k
          · subst e
            rw [HZ.out]; exact hq
          · exact HN.out j h (by omega)
    · have hltz : ¬ (k : Int) < (l0.length : Int) := by omega
      have HK := Aside0.mk (show k = l0.length by omega)
      go_wp2
      go_ret
      refine ⟨?_, HBr.out⟩
      rw [api_Edge_56_miss p l0 (fun j h => HN.out j h (by rw [HK.out]; exact h))]
      rfl


/-! ### api_Edge_42: function 42 -/
set_option maxHeartbeats 8000000 in
set_option maxRecDepth 100000 in
theorem api_Edge_42.calls (A0 : Option Addr) (c0 : Nat) (l0 : List S48) (p : S48 → Bool) (g : Nat) (lb : Array Value) (eg : ∀ args w, (callFunc g args).run Try.prog w = .ok (.enter g args) w) (w : World) (hr0 : Kd.C k48 w A0 l0.length l0)
    (hp : ∀ (W : World) (x : S48), x ∈ l0 → Below w.heap.size w W → Calls Try.prog g (#[(fun x : S48 => Value.agg #[.int .i64 x.f0, .int .i64 x.f1, .int .i64 x.f2, .int .i64 x.f3.f0, .int .i64 x.f3.f1, .bool x.f4]) x] ++ lb) W fun e w' => e = .returned (.bool (p x)) ∧ Below w.heap.size w w') :
    Calls Try.prog 42 #[.slice A0 l0.length c0, .func (.func g) #[] lb] w fun e w' => e = .returned (.bool (l0.any p)) ∧ Below w.heap.size w w' := by
  have hany : decide (0 ≤ api_Edge_56_idx p l0) = l0.any p := by
    unfold api_Edge_56_idx
    by_cases h : l0.any p = true
    · rw [if_pos h, h]; exact decide_eq_true (by omega)
    · rw [if_neg h, Bool.eq_false_iff.2 h]; rfl
  have HA := Aside0.mk hany
  have hcall := api_Edge_56.calls A0 c0 l0 p g lb eg w hr0 hp
  clear hany hr0 hp
  go_enter Try.func42, Try.ntmps42
  go_wp2_with (go_at_call 56; refine hcall.mono ?_; rintro e w' ⟨rfl, hb'⟩)
  go_ret
  exact ⟨by first | rfl | (rw [← HA.out]; rfl), hb'⟩


/-! ### relax_May: function 23 -/
/-- Is an edge none for so many hosts? -/
def mayBad (n : Int) (x : S48) : Bool := decide (mn x.f0 x.f1 < 0) || decide (mx x.f0 x.f1 ≥ n) || decide (x.f2 > 4503599627370496) || decide (x.f2 < -4503599627370496)
def relax_May.f (a0 : Int) (l1 : List S48) : Option Bool := if a0 < 0 then some false else (if a0 > 32 then some false else some (!(l1.any (mayBad a0))))
set_option maxHeartbeats 8000000 in
set_option maxRecDepth 100000 in
theorem mayBad_calls (n : Int) (B : Nat) (x : S48) (w W : World) (hb : Below w.heap.size w W) (hcell : W.cell? ⟨B, 0, none⟩ = some (.int .i64 n)) :
    Calls Try.prog 43 (#[(fun x : S48 => Value.agg #[.int .i64 x.f0, .int .i64 x.f1, .int .i64 x.f2, .int .i64 x.f3.f0, .int .i64 x.f3.f1, .bool x.f4]) x] ++ #[.pointer (some ⟨B, 0, none⟩)]) W fun e w' => e = .returned (.bool (mayBad n x)) ∧ Below w.heap.size w w' := by
  obtain ⟨a, b, c, d, f⟩ := x
  have HB := Aside0.mk hb
  have HLT := Aside0.mk (World.block_lt_of_cell? W _ hcell)
  clear hb
  show Calls Try.prog 43 #[.agg #[.int .i64 a, .int .i64 b, .int .i64 c, .int .i64 d.f0, .int .i64 d.f1, .bool f], .pointer (some ⟨B, 0, none⟩)] W _
  have hu_ := Try.underlying48
  have hcell2 : (W.alloc (.cells #[.int .i64 a, .int .i64 b, .int .i64 c, .int .i64 d.f0, .int .i64 d.f1, .bool f] 48)).cell? ⟨B, 0, none⟩ = some (.int .i64 n) := ((below_alloc (Below.refl W.heap.size W) _).cell HLT.out).trans hcell
  go_enter Try.func43, Try.ntmps43
  go_wp2
  all_goals (go_ret; refine ⟨congrArg (fun b_ => Ending.returned (.bool b_)) ?_, below_alloc HB.out _⟩; clear hcell hcell2 hu_; unfold mayBad mn mx; rw [Bool.eq_iff_iff]; simp only [Bool.or_eq_true, decide_eq_true_eq, true_iff, iff_true, false_iff, iff_false, Bool.false_eq_true, Bool.true_eq_false, ge_iff_le, gt_iff_lt]; (repeat' split) <;> omega)
set_option maxHeartbeats 8000000 in
set_option maxRecDepth 100000 in
theorem relax_May.calls (a0 : Int) (A1 : Option Addr) (c1 : Nat) (l1 : List S48) (r : Bool) (w : World) (hr1 : Kd.C k48 w A1 l1.length l1) (hc1 : l1.length ≤ c1) (h : relax_May.f a0 l1 = some r) :
    Calls Try.prog 23 #[.int .i64 a0, .slice A1 l1.length c1] w fun e w' => e = .returned (.bool r) ∧ Below w.heap.size w w' := by
  have hmf : ∀ (fn : Fn) (first cap : Array Value) (w : World), (Instr.makeFunc fn first cap).run Try.prog w = .ok (.func fn first cap) w := fun _ _ _ _ => rfl
  have HB := Aside0.mk (below_alloc (Below.refl w.heap.size w) (.cells #[.int .i64 a0] 3))
  have HR := Aside0.mk (Kd.C_alloc hr1 (.cells #[.int .i64 a0] 3))
  have hcall := api_Edge_42.calls A1 c1 l1 (mayBad a0) 43 #[.pointer (some ⟨w.heap.size, 0, none⟩)] (fun args w => enters_ (P := Try.prog) Try.func43 (by kernel_rfl) rfl args w) (w.alloc (.cells #[.int .i64 a0] 3)) HR.out (fun W x _ hb => mayBad_calls a0 w.heap.size x _ W hb (by rw [hb.cell (p := ⟨w.heap.size, 0, none⟩) (by simp)]; rw [World.cell?_alloc_at _ _ _ _ rfl]; rfl))
  have HC := Aside0.mk hcall
  clear hcall hr1 hc1
  unfold relax_May.f at h
  by_cases c2 : a0 < 0
  · rw [if_pos c2] at h
    obtain rfl := Option.some.inj h
    clear h
    have c2b := decide_eq_true c2
    go_enter Try.func23, Try.ntmps23
    go_wp2
    go_ret
    exact ⟨rfl, HB.out⟩
  · rw [if_neg c2] at h
    have c2b := decide_eq_false c2
    by_cases c3 : a0 > 32
    · rw [if_pos c3] at h
      obtain rfl := Option.some.inj h
      clear h
      have c3b : decide (32 < a0) = true := decide_eq_true c3
      go_enter Try.func23, Try.ntmps23
      go_wp2
      go_ret
      exact ⟨rfl, HB.out⟩
    · rw [if_neg c3] at h
      obtain rfl := Option.some.inj h
      clear h
      have c3b : decide (32 < a0) = false := decide_eq_false c3
      clear c2 c3
      go_enter Try.func23, Try.ntmps23
      go_wp2_with (go_at_call 42; refine HC.out.mono ?_; rintro e w2 ⟨rfl, hb⟩)
      go_ret
      exact ⟨by simp, below_step HB.out hb⟩


-- NOT PRINTED: function 67 (bits_Add64)

/-! ### bound_raised: function 68 -/
def bound_raised.f (a0 : Int) : Option (Int) := some (Go.bits .xor .u64 (IntKind.u64.wrap (a0)) 9223372036854775808)
set_option maxHeartbeats 8000000 in
set_option maxRecDepth 100000 in
theorem bound_raised.calls (a0 : Int) (r : Int) (w : World) (h : bound_raised.f a0 = some r) :
    Calls Try.prog 68 #[.int .i64 a0] w fun e w' => e = .returned (.int .u64 r) ∧ Drawn0 w w' := by
  have H : (some (Go.bits .xor .u64 (IntKind.u64.wrap (a0)) 9223372036854775808)) = some r := h
  clear h
  obtain rfl := Option.some.inj H
  go_enter Try.func68, Try.ntmps68
  go_wp2
  go_ret
  exact ⟨by first | rfl | (simp; done) | (simp [*]; done), by repeat (first | exact Drawn0.refl _ | apply Drawn0.step)⟩

/-! ### bound_sum: function 64 -/
def bound_sum.f (a0 a1 : Int) : Option (Int × Int) := (bound_raised.f a0).bind fun x => (bound_raised.f a1).bind fun y => if 0 ≤ x then (if 0 ≤ y then some ((x + y) / 18446744073709551616, (x + y) % 18446744073709551616) else none) else none
set_option maxHeartbeats 8000000 in
set_option maxRecDepth 100000 in
theorem bound_sum.calls (a0 a1 : Int) (r1 r2 : Int) (w : World) (h : bound_sum.f a0 a1 = some (r1, r2)) :
    Calls Try.prog 64 #[.int .i64 a0, .int .i64 a1] w fun e w' => e = .returned (.agg #[.int .u64 r1, .int .u64 r2]) ∧ Below w.heap.size w w' := by
  have hu_ := Try.underlying82
  unfold bound_sum.f at h
  obtain ⟨x, hx, h⟩ := Option.bind_eq_some_iff.mp h
  obtain ⟨y, hy, h⟩ := Option.bind_eq_some_iff.mp h
  have HX := Aside0.mk hx
  have HY := Aside0.mk hy
  clear hx hy
  by_cases c1 : 0 ≤ x
  case neg => rw [if_neg c1] at h; exact absurd h (by simp)
  by_cases c2 : 0 ≤ y
  case neg => rw [if_pos c1, if_neg c2] at h; exact absurd h (by simp)
  rw [if_pos c1, if_pos c2] at h
  simp only [Option.some.injEq, Prod.mk.injEq] at h
  obtain ⟨rfl, rfl⟩ := h
  have hadd : ∀ W : World, (callFunc 67 #[.int .u64 x, .int .u64 y, .int .u64 0]).run Try.prog W = .ok (.value (.tuple #[.int .u64 ((x + y) % 18446744073709551616), .int .u64 ((x + y) / 18446744073709551616)])) W := by
    intro W
    rw [run_callFunc_extern Try.func67 (by kernel_rfl) (by kernel_rfl) (by kernel_rfl) (e := add64Entry) (by kernel_rfl), run_add64 x y 0 c1 c2 (by decide) (by decide)]
    simp only [Result.andThen, Int.add_zero]
  clear c1 c2
  have hz0 : (w.alloc (.cells #[.int .u64 0, .int .u64 0] 82)).heap[w.heap.size]? = some (.cells #[.int .u64 0, .int .u64 0] 82 (0, 0)) := blk_new _ _
  have HZ := Aside0.mk hz0
  have HB := Aside0.mk (below_alloc (Below.refl w.heap.size w) (.cells #[.int .u64 0, .int .u64 0] 82))
  clear hz0
  go_enter Try.func64, Try.ntmps64
  go_wp2_with fail
  refine (bound_raised.calls a0 x _ HX.out).mono ?_
  rintro e w1 ⟨rfl, ⟨n1, rfl⟩⟩
  go_wp2_with fail
  refine (bound_raised.calls a1 y _ HY.out).mono ?_
  rintro e w1 ⟨rfl, ⟨n2, rfl⟩⟩
  have HZ2 := Aside0.mk (blk_drewN (blk_drewN HZ.out n1) n2)
  have HB2 := Aside0.mk (pw_below_drewN (pw_below_drewN HB.out n1) n2)
  obtain ⟨wq, hwq⟩ : ∃ wq, wq = ((w.alloc (.cells #[.int .u64 0, .int .u64 0] 82)).drewN n1).drewN n2 := ⟨_, rfl⟩
  first | rw [← hwq] at HZ2 HB2 ⊢ | (simp only [World.drewN_drewN] at HZ2 HB2 hwq ⊢; rw [← hwq] at HZ2 HB2 ⊢)
  clear hwq HZ HB HX HY
  have hc0 : wq.cell? ⟨w.heap.size, 0, none⟩ = some (.int .u64 0) := (blk_cell HZ2.out 0).trans rfl
  have hc1 : wq.cell? ⟨w.heap.size, 1, none⟩ = some (.int .u64 0) := (blk_cell HZ2.out 1).trans rfl
  have hf0 := blk_frozen HZ2.out 0
  have hf1 := blk_frozen HZ2.out 1
  go_wp2
  exact bodyPost_ret (v := .agg #[.int .u64 ((x + y) / 18446744073709551616), .int .u64 ((x + y) % 18446744073709551616)]) (results_cell_row (P := Try.prog) rfl _ _ w.heap.size 82 _ (0, 0) _ rfl (blk_set (blk_set HZ2.out 0 _) 1 _) Try.underlying82 rfl (by kernel_rfl)) rfl ⟨rfl, below_set (below_set HB2.out (Nat.le_refl _)) (Nat.le_refl _)⟩


/-! ### bound_above: function 63 -/
def bound_above.f (a0 : Int) (a1_0 : Int) (a1_1 : Int) : Option Bool := (bound_sum.f a0 0).bind fun b => some (decide (b.1 > a1_0) || (decide (b.1 = a1_0) && decide (b.2 > a1_1)))
set_option maxHeartbeats 8000000 in
set_option maxRecDepth 100000 in
theorem bound_above.calls (a0 : Int) (a1_0 : Int) (a1_1 : Int) (r : Bool) (w : World) (h : bound_above.f a0 a1_0 a1_1 = some r) :
    Calls Try.prog 63 #[.int .i64 a0, .agg #[.int .u64 a1_0, .int .u64 a1_1]] w fun e w' => e = .returned (.bool r) ∧ Below w.heap.size w w' := by
  have hu_ := Try.underlying82
  unfold bound_above.f at h
  obtain ⟨⟨x, y⟩, hx, h⟩ := Option.bind_eq_some_iff.mp h
  have HX := Aside0.mk hx
  have HRR := Aside0.mk (Option.some.inj h)
  clear hx h
  have hb0 := below_alloc (Below.refl w.heap.size w) (.cells #[.int .u64 a1_0, .int .u64 a1_1] 82)
  have HB0 := Aside0.mk hb0
  have HZ := Aside0.mk (blk_new w (.cells #[.int .u64 a1_0, .int .u64 a1_1] 82))
  clear hb0
  have hcs : ∀ (c1 c2 : Bool), (x == a1_0) = c1 → (y == a1_1) = c2 → Calls Try.prog 63 #[.int .i64 a0, .agg #[.int .u64 a1_0, .int .u64 a1_1]] w fun e w' => e = .returned (.bool r) ∧ Below w.heap.size w w' := by
    intro c1 c2 h1 h2
    have HE1 := Aside0.mk h1
    have HE2 := Aside0.mk h2
    cases c1 with
    | true =>
      cases c2 with
      | true =>
        have HR2 := Aside0.mk (show r = false by rw [← HRR.out]; simp at h1 h2; simp [h1, h2])
        go_enter Try.func63, Try.ntmps63
        go_wp2_with fail
        refine (bound_sum.calls a0 0 x y _ HX.out).mono ?_
        rintro e w1 ⟨rfl, hb⟩
        have HB := Aside0.mk (below_step HB0.out hb)
        have HZ1 := Aside0.mk (blk_below HZ.out hb)
        clear hb
        have hz0 : (w1.alloc (.cells #[.int .u64 x, .int .u64 y] 82)).cell? ⟨w.heap.size, 0, none⟩ = some (.int .u64 a1_0) := (blk_cell (blk_alloc HZ1.out _) 0).trans rfl
        have hz1 : (w1.alloc (.cells #[.int .u64 x, .int .u64 y] 82)).cell? ⟨w.heap.size, 1, none⟩ = some (.int .u64 a1_1) := (blk_cell (blk_alloc HZ1.out _) 1).trans rfl
        go_wp2
        go_ret
        exact ⟨by rw [HR2.out]; first | rfl | (simp; done) | (simp [*]; done), below_alloc HB.out _⟩
      | false =>
        have HR2 := Aside0.mk (show r = decide (y > a1_1) by rw [← HRR.out]; simp at h1; simp [h1])
        have h3 : decide (a1_0 < x) = false := by simp at h1; simp [h1]
        go_enter Try.func63, Try.ntmps63
        go_wp2_with fail
        refine (bound_sum.calls a0 0 x y _ HX.out).mono ?_
        rintro e w1 ⟨rfl, hb⟩
        have HB := Aside0.mk (below_step HB0.out hb)
        have HZ1 := Aside0.mk (blk_below HZ.out hb)
        clear hb
        have hz0 : (w1.alloc (.cells #[.int .u64 x, .int .u64 y] 82)).cell? ⟨w.heap.size, 0, none⟩ = some (.int .u64 a1_0) := (blk_cell (blk_alloc HZ1.out _) 0).trans rfl
        have hz1 : (w1.alloc (.cells #[.int .u64 x, .int .u64 y] 82)).cell? ⟨w.heap.size, 1, none⟩ = some (.int .u64 a1_1) := (blk_cell (blk_alloc HZ1.out _) 1).trans rfl
        go_wp2
        go_ret
        exact ⟨by rw [HR2.out]; first | rfl | (simp; done) | (simp [*]; done), below_alloc HB.out _⟩
    | false =>
      cases h3 : decide (a1_0 < x) with
      | true =>
        have HR2 := Aside0.mk (show r = true by rw [← HRR.out]; simp at h1 h3; simp [h3])
        go_enter Try.func63, Try.ntmps63
        go_wp2_with fail
        refine (bound_sum.calls a0 0 x y _ HX.out).mono ?_
        rintro e w1 ⟨rfl, hb⟩
        have HB := Aside0.mk (below_step HB0.out hb)
        have HZ1 := Aside0.mk (blk_below HZ.out hb)
        clear hb
        have hz0 : (w1.alloc (.cells #[.int .u64 x, .int .u64 y] 82)).cell? ⟨w.heap.size, 0, none⟩ = some (.int .u64 a1_0) := (blk_cell (blk_alloc HZ1.out _) 0).trans rfl
        have hz1 : (w1.alloc (.cells #[.int .u64 x, .int .u64 y] 82)).cell? ⟨w.heap.size, 1, none⟩ = some (.int .u64 a1_1) := (blk_cell (blk_alloc HZ1.out _) 1).trans rfl
        go_wp2
        go_ret
        exact ⟨by rw [HR2.out]; first | rfl | (simp; done) | (simp [*]; done), below_alloc HB.out _⟩
      | false =>
        have HR2 := Aside0.mk (show r = false by rw [← HRR.out]; simp at h1 h3; simp [h1, h3])
        go_enter Try.func63, Try.ntmps63
        go_wp2_with fail
        refine (bound_sum.calls a0 0 x y _ HX.out).mono ?_
        rintro e w1 ⟨rfl, hb⟩
        have HB := Aside0.mk (below_step HB0.out hb)
        have HZ1 := Aside0.mk (blk_below HZ.out hb)
        clear hb
        have hz0 : (w1.alloc (.cells #[.int .u64 x, .int .u64 y] 82)).cell? ⟨w.heap.size, 0, none⟩ = some (.int .u64 a1_0) := (blk_cell (blk_alloc HZ1.out _) 0).trans rfl
        have hz1 : (w1.alloc (.cells #[.int .u64 x, .int .u64 y] 82)).cell? ⟨w.heap.size, 1, none⟩ = some (.int .u64 a1_1) := (blk_cell (blk_alloc HZ1.out _) 1).trans rfl
        go_wp2
        go_ret
        exact ⟨by rw [HR2.out]; first | rfl | (simp; done) | (simp [*]; done), below_alloc HB.out _⟩
  exact hcs _ _ rfl rfl


/-! ### bound_Holds: function 50 -/
def bound_Holds.j0 : Nat → List Int → Bool → Int → Int → Int → Int → Int → Bool → Option (Bool)
  | 0, _, _, _, _, _, _, _, _ => none
  | k + 1, x1, x20, x102000, x102001, x102002, x102003, x102004, x102005 => if x20 = true then (some false) else (if 0 ≤ x102001 then (if x102001 < (x1.length : Int) then (if 0 ≤ x102000 then (if x102000 < (x1.length : Int) then ((bound_sum.f (rd x1 x102000) x102002).bind fun bt104 => ((bound_above.f (rd x1 x102001) bt104.1 bt104.2).bind fun t106 => (some (!t106)))) else (none)) else (none)) else (none)) else (none))
def bound_Holds.f (k : Nat) (a0_0 : Int) (a0_1 : Int) (a0_2 : Int) (a0_3 : Int) (a0_4 : Int) (a0_5 : Bool) (l1 : List Int) : Option (Bool) := if (mn a0_0 a0_1) < 0 then (bound_Holds.j0 k l1 true a0_0 a0_1 a0_2 a0_3 a0_4 a0_5) else (bound_Holds.j0 k l1 (decide ((mx a0_0 a0_1) ≥ (l1.length : Int))) a0_0 a0_1 a0_2 a0_3 a0_4 a0_5)
theorem bound_Holds.mono_l : ∀ k, (∀ y0 y1 y2 y3 y4 y5 y6 y7, LeO (bound_Holds.j0 k y0 y1 y2 y3 y4 y5 y6 y7) (bound_Holds.j0 (k + 1) y0 y1 y2 y3 y4 y5 y6 y7))
  | 0 => fun _ _ _ _ _ _ _ _ r h => by simp [bound_Holds.j0] at h
  | k + 1 => by
    have ih0 := bound_Holds.mono_l k
    · intro y0 y1 y2 y3 y4 y5 y6 y7
      unfold bound_Holds.j0
      repeat' first
      | (with_reducible exact ih0 _ _ _ _ _ _ _ _)
      | (with_reducible exact LeO.refl _)
      | (with_reducible exact LeO.none _)
      | (with_reducible refine LeO.ite ?_ ?_)
      | (with_reducible refine LeO.bind ?_ (fun _ => ?_))
      | exact ih0 _ _ _ _ _ _ _ _
      | exact LeO.none _
      | refine LeO.ite ?_ ?_
      | refine LeO.bind ?_ (fun _ => ?_)
theorem bound_Holds.mono : ∀ a0 a1 a2 a3 a4 a5 a6 k, LeO (bound_Holds.f k a0 a1 a2 a3 a4 a5 a6) (bound_Holds.f (k + 1) a0 a1 a2 a3 a4 a5 a6) := by
  intro a0 a1 a2 a3 a4 a5 a6 k
  have ih0 := bound_Holds.mono_l k
  unfold bound_Holds.f
  repeat' first
      | (with_reducible exact ih0 _ _ _ _ _ _ _ _)
      | (with_reducible exact LeO.refl _)
      | (with_reducible exact LeO.none _)
      | (with_reducible refine LeO.ite ?_ ?_)
      | (with_reducible refine LeO.bind ?_ (fun _ => ?_))
      | exact ih0 _ _ _ _ _ _ _ _
      | exact LeO.none _
      | refine LeO.ite ?_ ?_
      | refine LeO.bind ?_ (fun _ => ?_)
def bound_Holds.T3 : Bool × List (List Nat × List Nat) := (true, [([], []), ([], []), ([1], [1]), ([0, 2], [0, 2]), ([3], [3]), ([], []), ([], []), ([6], [6]), ([5, 7], [5, 7]), ([8], [8]), ([], []), ([10], [10]), ([9, 11], [9, 11]), ([4, 12, 12], [4, 12]), ([13], [13]), ([14, 13, 0, 1, 2, 3, 4, 5, 6, 7, 8, 9, 10, 11, 12, 13, 14], [14])])
def bound_Holds.B3 : List Nat := [0, 0, 2, 7, 15, 0, 0, 64, 224, 480, 0, 1024, 4064, 8191, 16383, 32767]
theorem bound_Holds.tab3 : rtab .any (opsOf Try.f50 3) = bound_Holds.T3 := by kernel_rfl
theorem bound_Holds.bits3 : waitsOk bound_Holds.T3.2 bound_Holds.B3 = true := by kernel_rfl
set_option maxHeartbeats 8000000 in
set_option maxRecDepth 100000 in
theorem bound_Holds.calls (k : Nat) (a0_0 : Int) (a0_1 : Int) (a0_2 : Int) (a0_3 : Int) (a0_4 : Int) (a0_5 : Bool) (A1 : Option Addr) (c1 : Nat) (l1 : List Int) (r : Bool) (w : World) (hr1 : Kd.C (Kd.int .i64) w A1 l1.length l1) (hc1 : l1.length ≤ c1) (h : bound_Holds.f k a0_0 a0_1 a0_2 a0_3 a0_4 a0_5 l1 = some r) :
    Calls Try.prog 50 #[.agg #[.int .i64 a0_0, .int .i64 a0_1, .int .i64 a0_2, .int .i64 a0_3, .int .i64 a0_4, .bool a0_5], .slice A1 l1.length c1] w fun e w' => e = .returned (.bool r) ∧ Below w.heap.size w w' := by
  have hu48 := Try.underlying48
  have HR1 := Aside0.mk hr1
  have HC1 := Aside0.mk hc1
  clear hr1 hc1
  have HB := Aside0.mk (Below.refl w.heap.size w)
  have H : (if (mn a0_0 a0_1) < 0 then (bound_Holds.j0 k l1 true a0_0 a0_1 a0_2 a0_3 a0_4 a0_5) else (bound_Holds.j0 k l1 (decide ((mx a0_0 a0_1) ≥ (l1.length : Int))) a0_0 a0_1 a0_2 a0_3 a0_4 a0_5)) = some r := h
  clear h
  have HC3 := Aside0.mk H
  clear H
  go_enter Try.func50, Try.ntmps50
  go_upto_region 1 with (first | ((with_reducible refine gate_dst (N := 2) rfl ?_); (try (refine gate_guard (by rfl) ?_; dsimp only)); refine box_event ?hg (N := 2) ?hd (cs := #[.int .i64 a0_0, .int .i64 a0_1, .int .i64 a0_2, .int .i64 a0_3, .int .i64 a0_4, .bool a0_5]) (t := 48) ?hr ?_; (case hd => rfl); (case hg => rfl); (case hr => first | (go_simp; done) | (go_simp; rfl)); intro gb101 hg w4 hbox hb; have n0_ := Aside0.mk (below_step (by repeat (first | (with_reducible first | exact HB.out | apply below_alloc | apply pw_below_drewN | apply below_drew1) | exact HB.out)) hb); have n1_ := Aside0.mk (hbox); have n2_ := Aside0.mk ((by rw [hg]; exact (below_size (by repeat (first | (with_reducible first | exact HB.out | apply below_alloc | apply pw_below_drewN | apply below_drew1) | exact HB.out))) : w.heap.size ≤ gb101)); have n3_ := Aside0.mk ((by rw [hg]; exact (below_size (by repeat (first | (with_reducible first | exact HB.out | apply below_alloc | apply pw_below_drewN | apply below_drew1) | exact HB.out))) : w.heap.size ≤ gb101)); clear HB; have HB := n0_; have BK101 := n1_; have GW101 := n2_; have GE101 := n3_; clear n0_ n1_ n2_ n3_; clear hb hbox hg))
  (try simp only [Act.put, List.setIfInBounds_toArray, List.set_cons_zero, List.set_cons_succ])
  go_cut [20] (fun v20 wc => ∃ (kq : Nat) (x20_2 : Bool), v20 = .bool x20_2 ∧ Aside0 (bound_Holds.j0 kq l1 x20_2 a0_0 a0_1 a0_2 a0_3 a0_4 a0_5 = some r) ∧ Aside0 (kq ≤ k) ∧ Aside0 (wc.heap[gb101]? = some (.cells #[.int .i64 a0_0, .int .i64 a0_1, .int .i64 a0_2, .int .i64 a0_3, .int .i64 a0_4, .bool a0_5] 48 (0, 0))) ∧ Aside0 (Below w.heap.size w wc))
  case first =>
    have H := HC3.out
    clear HC3
    obtain ⟨ji5, hji5⟩ : ∃ j_ : Int, (mn a0_0 a0_1) = j_ := ⟨_, rfl⟩
    replace H : (if (ji5) < 0 then (bound_Holds.j0 k l1 true a0_0 a0_1 a0_2 a0_3 a0_4 a0_5) else (bound_Holds.j0 k l1 (decide ((mx a0_0 a0_1) ≥ (l1.length : Int))) a0_0 a0_1 a0_2 a0_3 a0_4 a0_5)) = some r := by first | (rw [hji5] at H; exact H) | (simp only [hji5] at H ⊢; exact H)
    have hji5_ : (if a0_1 < a0_0 then a0_1 else a0_0) = ji5 := hji5
    by_cases c6 : (ji5) < 0
    · rw [if_pos c6] at H
      have c6b0 : decide ((ji5) < 0) = true := decide_eq_true c6
      clear c6
      (first | rw [c6b0] | (simp only [i64_w, i32_w]; rw [c6b0]) | skip)
      have H' := Aside0.mk H
      clear H
      have hcz7_0 : w4.cell? ⟨gb101, 0, none⟩ = some (.int .i64 a0_0) := (blk_cell BK101.out 0).trans rfl
      have hcz7_1 : w4.cell? ⟨gb101, 1, none⟩ = some (.int .i64 a0_1) := (blk_cell BK101.out 1).trans rfl
      have hcz7_2 : w4.cell? ⟨gb101, 2, none⟩ = some (.int .i64 a0_2) := (blk_cell BK101.out 2).trans rfl
      have hcz7_3 : w4.cell? ⟨gb101, 3, none⟩ = some (.int .i64 a0_3) := (blk_cell BK101.out 3).trans rfl
      have hcz7_4 : w4.cell? ⟨gb101, 4, none⟩ = some (.int .i64 a0_4) := (blk_cell BK101.out 4).trans rfl
      have hcz7_5 : w4.cell? ⟨gb101, 5, none⟩ = some (.bool a0_5) := (blk_cell BK101.out 5).trans rfl
      have hfz7_0 := blk_frozen BK101.out 0
      have hfz7_1 := blk_frozen BK101.out 1
      have hfz7_2 := blk_frozen BK101.out 2
      have hfz7_3 := blk_frozen BK101.out 3
      have hfz7_4 := blk_frozen BK101.out 4
      have hfz7_5 := blk_frozen BK101.out 5
      go_wp2
      go_meet
      case rel => exact ⟨_, (true), (by first | rfl | (simp; done) | (simp [*]; done)), H', ⟨by first | omega | exact Nat.le_refl _⟩, ⟨by (with_reducible repeat (first | refine blk_drewN ?_ _ | refine blk_drew ?_ | refine blk_alloc ?_ _)); exact BK101.out⟩, ⟨by repeat (first | (with_reducible first | exact HB.out | apply below_alloc | apply pw_below_drewN | apply below_drew1 | refine below_set ?_ GE101.out) | exact HB.out)⟩⟩
    · rw [if_neg c6] at H
      have c6b0 : decide ((ji5) < 0) = false := decide_eq_false c6
      clear c6
      (first | rw [c6b0] | (simp only [i64_w, i32_w]; rw [c6b0]) | skip)
      obtain ⟨ji8, hji8⟩ : ∃ j_ : Int, (mx a0_0 a0_1) = j_ := ⟨_, rfl⟩
      replace H : (bound_Holds.j0 k l1 (decide ((ji8) ≥ (l1.length : Int))) a0_0 a0_1 a0_2 a0_3 a0_4 a0_5) = some r := by first | (rw [hji8] at H; exact H) | (simp only [hji8] at H ⊢; exact H)
      have hji8_ : (if a0_0 < a0_1 then a0_1 else a0_0) = ji8 := hji8
      have H' := Aside0.mk H
      clear H
      have hcz9_0 : w4.cell? ⟨gb101, 0, none⟩ = some (.int .i64 a0_0) := (blk_cell BK101.out 0).trans rfl
      have hcz9_1 : w4.cell? ⟨gb101, 1, none⟩ = some (.int .i64 a0_1) := (blk_cell BK101.out 1).trans rfl
      have hcz9_2 : w4.cell? ⟨gb101, 2, none⟩ = some (.int .i64 a0_2) := (blk_cell BK101.out 2).trans rfl
      have hcz9_3 : w4.cell? ⟨gb101, 3, none⟩ = some (.int .i64 a0_3) := (blk_cell BK101.out 3).trans rfl
      have hcz9_4 : w4.cell? ⟨gb101, 4, none⟩ = some (.int .i64 a0_4) := (blk_cell BK101.out 4).trans rfl
      have hcz9_5 : w4.cell? ⟨gb101, 5, none⟩ = some (.bool a0_5) := (blk_cell BK101.out 5).trans rfl
      have hfz9_0 := blk_frozen BK101.out 0
      have hfz9_1 := blk_frozen BK101.out 1
      have hfz9_2 := blk_frozen BK101.out 2
      have hfz9_3 := blk_frozen BK101.out 3
      have hfz9_4 := blk_frozen BK101.out 4
      have hfz9_5 := blk_frozen BK101.out 5
      go_wp2
      go_meet
      case rel => exact ⟨_, (decide ((ji8) ≥ (l1.length : Int))), (by first | rfl | (simp; done) | (simp only [← hji8] <;> (first | rfl | simp)) | (simp [*]; done)), H', ⟨by first | omega | exact Nat.le_refl _⟩, ⟨by (with_reducible repeat (first | refine blk_drewN ?_ _ | refine blk_drew ?_ | refine blk_alloc ?_ _)); exact BK101.out⟩, ⟨by repeat (first | (with_reducible first | exact HB.out | apply below_alloc | apply pw_below_drewN | apply below_drew1 | refine below_set ?_ GE101.out) | exact HB.out)⟩⟩
  case rest =>
    clear HC3
    try clear c1
    try clear p2
    try clear c5
    try clear c6
    try clear c6b0
    try clear hcz7_0
    try clear hcz7_1
    try clear hcz7_2
    try clear hcz7_3
    try clear hcz7_4
    try clear hcz7_5
    try clear hcz9_0
    try clear hcz9_1
    try clear hcz9_2
    try clear hcz9_3
    try clear hcz9_4
    try clear hcz9_5
    try clear hfz7_0
    try clear hfz7_1
    try clear hfz7_2
    try clear hfz7_3
    try clear hfz7_4
    try clear hfz7_5
    try clear hfz9_0
    try clear hfz9_1
    try clear hfz9_2
    try clear hfz9_3
    try clear hfz9_4
    try clear hfz9_5
    obtain ⟨kq, x20_2, rfl, HA, HJ2, BK101, HB⟩ := hcut
    cases kq with
    | zero => exact absurd HA.out (by simp [bound_Holds.j0])
    | succ kj2 =>
      have H := HA.out
      clear HA
      simp only [bound_Holds.j0] at H
      by_cases c10 : x20_2 = true
      · subst c10
        have H1 : (some false) = some r := by rw [if_pos rfl] at H; exact H
        clear H
        have H := H1
        clear H1
        obtain rfl := Option.some.inj H
        go_wp2
        go_ret
        exact ⟨by first | rfl | (simp [errW_none, errW_some] <;> rfl) | (simp [*, errW_none, errW_some] <;> rfl), by repeat (first | (with_reducible first | exact HB.out | apply below_alloc | apply pw_below_drewN | apply below_drew1 | refine below_set ?_ GE101.out) | exact HB.out)⟩
      · replace c10 := Bool.eq_false_iff.mpr c10
        subst c10
        have H1 : (if 0 ≤ a0_1 then (if a0_1 < (l1.length : Int) then (if 0 ≤ a0_0 then (if a0_0 < (l1.length : Int) then ((bound_sum.f (rd l1 a0_0) a0_2).bind fun bt104 => ((bound_above.f (rd l1 a0_1) bt104.1 bt104.2).bind fun t106 => (some (!t106)))) else (none)) else (none)) else (none)) else (none)) = some r := by rw [if_neg (show ¬ (false = true) by decide)] at H; exact H
        clear H
        have H := H1
        clear H1
        by_cases c11 : 0 ≤ a0_1
        · rw [if_pos c11] at H
          have c11b0 : decide (0 ≤ a0_1) = true := decide_eq_true c11
          clear c11
          by_cases c12 : a0_1 < (l1.length : Int)
          · rw [if_pos c12] at H
            have c12b0 : decide (a0_1 < (l1.length : Int)) = true := decide_eq_true c12
            clear c12
            by_cases c13 : 0 ≤ a0_0
            · rw [if_pos c13] at H
              have c13b0 : decide (0 ≤ a0_0) = true := decide_eq_true c13
              clear c13
              by_cases c14 : a0_0 < (l1.length : Int)
              · rw [if_pos c14] at H
                have c14b0 : decide (a0_0 < (l1.length : Int)) = true := decide_eq_true c14
                clear c14
                replace H := Option.bind_eq_some_iff.mp H
                obtain ⟨⟨t104, t105⟩, A150, H⟩ := H
                replace H : ((bound_above.f (rd l1 a0_1) t104 t105).bind fun t106 => (some (!t106))) = some r := H
                have A15 := Aside0.mk A150
                clear A150
                replace H := Option.bind_eq_some_iff.mp H
                obtain ⟨t106, A160, H⟩ := H
                replace H : (some (!t106)) = some r := H
                have A16 := Aside0.mk A160
                clear A160
                obtain rfl := Option.some.inj H
                try go_wp2
                (try (rw [drewN_self wc]; generalize hq_ : World.drewN wc _ = wc; have n0_ : Aside0 (wc.heap[gb101]? = some (.cells #[.int .i64 a0_0, .int .i64 a0_1, .int .i64 a0_2, .int .i64 a0_3, .int .i64 a0_4, .bool a0_5] 48 (0, 0))) := ⟨by rw [← hq_]; exact (by (with_reducible repeat (first | refine blk_drewN ?_ _ | refine blk_drew ?_ | refine blk_alloc ?_ _)); exact BK101.out)⟩; have n1_ : Aside0 (Below w.heap.size w wc) := ⟨by rw [← hq_]; exact (by repeat (first | (with_reducible first | exact HB.out | apply below_alloc | apply pw_below_drewN | apply below_drew1 | refine below_set ?_ GE101.out) | exact HB.out))⟩; clear BK101 HB hq_; have BK101 := n0_; have HB := n1_; clear n0_ n1_))
                have n0_ := Aside0.mk (blk_drew BK101.out)
                have n1_ := Aside0.mk (below_drew1 HB.out)
                clear BK101
                clear HB
                have BK101 := n0_
                have HB := n1_
                clear n0_ n1_
                have p102 : 0 ≤ (a0_1 : Int) := of_decide_eq_true (by first | (with_reducible assumption) | assumption)
                have q102 : a0_1 < (l1.length : Int) := of_decide_eq_true (by first | (with_reducible assumption) | assumption)
                obtain ⟨ad102, e102, hx102_0⟩ := Kd.at_int HR1.out a0_1 p102 q102
                have hw102_0 := hx102_0
                cases e102
                replace hx102_0 := (HB.out.cell (World.block_lt_of_cell? w _ hx102_0)).trans hx102_0
                replace p102 := eq_true p102
                replace q102 := eq_true q102
                have p103 : 0 ≤ (a0_0 : Int) := of_decide_eq_true (by first | (with_reducible assumption) | assumption)
                have q103 : a0_0 < (l1.length : Int) := of_decide_eq_true (by first | (with_reducible assumption) | assumption)
                obtain ⟨ad103, e103, hx103_0⟩ := Kd.at_int HR1.out a0_0 p103 q103
                have hw103_0 := hx103_0
                obtain rfl : ad102 = ad103 := (by injection e103)
                replace hx103_0 := (HB.out.cell (World.block_lt_of_cell? w _ hx103_0)).trans hx103_0
                replace p103 := eq_true p103
                replace q103 := eq_true q103
                refine start_ (n := 16) (S := fun w' => w'.cell? ⟨gb101, 0, none⟩ = some (.int .i64 a0_0) ∧ w'.cell? ⟨gb101, 1, none⟩ = some (.int .i64 a0_1) ∧ w'.cell? ⟨gb101, 2, none⟩ = some (.int .i64 a0_2) ∧ w'.cell? ⟨gb101, 3, none⟩ = some (.int .i64 a0_3) ∧ w'.cell? ⟨gb101, 4, none⟩ = some (.int .i64 a0_4) ∧ w'.cell? ⟨gb101, 5, none⟩ = some (.bool a0_5) ∧ w'.cell? (ad102.add (a0_1).toNat) = some (.int .i64 (rd l1 a0_1)) ∧ w'.cell? (ad102.add (a0_0).toNat) = some (.int .i64 (rd l1 a0_0))) (ds := []) #[false, false, false, false, false, false, false, false, false, false, false, false, false, false, false, false] (by kernel_rfl) rfl rfl ⟨(blk_cell BK101.out 0).trans rfl, (blk_cell BK101.out 1).trans rfl, (blk_cell BK101.out 2).trans rfl, (blk_cell BK101.out 3).trans rfl, (blk_cell BK101.out 4).trans rfl, (blk_cell BK101.out 5).trans rfl, ((HB.out.cell (World.block_lt_of_cell? w _ hw102_0)).trans hw102_0), ((HB.out.cell (World.block_lt_of_cell? w _ hw103_0)).trans hw103_0)⟩ (fun hHeld => ?_); refine with_tabW bound_Holds.tab3 bound_Holds.bits3 (fun HT_ HW_ => ?_)
                generalize wc.drew = w17 at BK101 HB hx102_0 hx103_0 hHeld ⊢
                refine pure_ (i := 0) (N := some 21) (v := ?_) (a' := ?_) #[true, false, false, false, false, false, false, false, false, false, false, false, false, false, false, false] rfl rfl (any_of HT_.out (by kernel_rfl)) (fun _ _ _ h => h) (Or.inl ⟨by rfl, ?_⟩) ?_ ?_
                rotate_left
                · intro w'
                  go_simp
                  with_reducible rfl
                rotate_left
                · simp only [Act.put, List.setIfInBounds_toArray, List.set_cons_zero, List.set_cons_succ, i64_w, i32_w]
                  rfl
                refine pure_ (i := 1) (N := some 22) (v := ?_) (a' := ?_) #[true, true, false, false, false, false, false, false, false, false, false, false, false, false, false, false] rfl rfl (any_of HT_.out (by kernel_rfl)) (fun _ _ _ h => h) (Or.inl ⟨by rfl, ?_⟩) ?_ ?_
                rotate_left
                · intro w'
                  go_simp
                  with_reducible rfl
                rotate_left
                · simp only [Act.put, List.setIfInBounds_toArray, List.set_cons_zero, List.set_cons_succ, i64_w, i32_w]
                  rfl
                refine pure_ (i := 5) (N := some 26) (v := ?_) (a' := ?_) #[true, true, false, false, false, true, false, false, false, false, false, false, false, false, false, false] rfl rfl (any_of HT_.out (by kernel_rfl)) (fun _ _ _ h => h) (Or.inl ⟨by rfl, ?_⟩) ?_ ?_
                rotate_left
                · intro w'
                  go_simp
                  with_reducible rfl
                rotate_left
                · simp only [Act.put, List.setIfInBounds_toArray, List.set_cons_zero, List.set_cons_succ, i64_w, i32_w]
                  rfl
                refine pure_ (i := 6) (N := some 27) (v := ?_) (a' := ?_) #[true, true, false, false, false, true, true, false, false, false, false, false, false, false, false, false] rfl rfl (any_of HT_.out (by kernel_rfl)) (fun _ _ _ h => h) (Or.inl ⟨by rfl, ?_⟩) ?_ ?_
                rotate_left
                · intro w'
                  go_simp
                  with_reducible rfl
                rotate_left
                · simp only [Act.put, List.setIfInBounds_toArray, List.set_cons_zero, List.set_cons_succ, i64_w, i32_w]
                  rfl
                refine pure_ (i := 10) (N := some 31) (v := ?_) (a' := ?_) #[true, true, false, false, false, true, true, false, false, false, true, false, false, false, false, false] rfl rfl (any_of HT_.out (by kernel_rfl)) (fun _ _ _ h => h) (Or.inl ⟨by rfl, ?_⟩) ?_ ?_
                rotate_left
                · intro w'
                  go_simp
                  with_reducible rfl
                rotate_left
                · simp only [Act.put, List.setIfInBounds_toArray, List.set_cons_zero, List.set_cons_succ, i64_w, i32_w]
                  rfl
                refine take_ (i := 2) (N := some 23) (v := ?_) (a' := ?_) #[true, true, true, false, false, true, true, false, false, false, true, false, false, false, false, false] rfl rfl (take_ofW HT_.out HW_.out (by kernel_rfl)) (fun _ _ _ h => h) (Or.inl ⟨by rfl, ?_⟩) hHeld ?_ ?_
                rotate_left
                · rintro w' ⟨s0, s1, s2, s3, s4, s5, s6, s7⟩
                  go_simp
                  with_reducible rfl
                rotate_left
                · simp only [Act.put, List.setIfInBounds_toArray, List.set_cons_zero, List.set_cons_succ, i64_w, i32_w]
                  rfl
                refine pure_ (i := 3) (N := some 24) (v := ?_) (a' := ?_) #[true, true, true, true, false, true, true, false, false, false, true, false, false, false, false, false] rfl rfl (any_of HT_.out (by kernel_rfl)) (fun _ _ _ h => h) (Or.inl ⟨by rfl, ?_⟩) ?_ ?_
                rotate_left
                · intro w'
                  go_simp
                  with_reducible rfl
                rotate_left
                · simp only [Act.put, List.setIfInBounds_toArray, List.set_cons_zero, List.set_cons_succ, i64_w, i32_w]
                  rfl
                refine take_ (i := 4) (N := some 25) (v := ?_) (a' := ?_) #[true, true, true, true, true, true, true, false, false, false, true, false, false, false, false, false] rfl rfl (take_ofW HT_.out HW_.out (by kernel_rfl)) (fun _ _ _ h => h) (Or.inl ⟨by rfl, ?_⟩) hHeld ?_ ?_
                rotate_left
                · rintro w' ⟨s0, s1, s2, s3, s4, s5, s6, s7⟩
                  go_simp
                  with_reducible rfl
                rotate_left
                · simp only [Act.put, List.setIfInBounds_toArray, List.set_cons_zero, List.set_cons_succ, i64_w, i32_w]
                  rfl
                refine take_ (i := 7) (N := some 28) (v := ?_) (a' := ?_) #[true, true, true, true, true, true, true, true, false, false, true, false, false, false, false, false] rfl rfl (take_ofW HT_.out HW_.out (by kernel_rfl)) (fun _ _ _ h => h) (Or.inl ⟨by rfl, ?_⟩) hHeld ?_ ?_
                rotate_left
                · rintro w' ⟨s0, s1, s2, s3, s4, s5, s6, s7⟩
                  go_simp
                  with_reducible rfl
                rotate_left
                · simp only [Act.put, List.setIfInBounds_toArray, List.set_cons_zero, List.set_cons_succ, i64_w, i32_w]
                  rfl
                refine pure_ (i := 8) (N := some 29) (v := ?_) (a' := ?_) #[true, true, true, true, true, true, true, true, true, false, true, false, false, false, false, false] rfl rfl (any_of HT_.out (by kernel_rfl)) (fun _ _ _ h => h) (Or.inl ⟨by rfl, ?_⟩) ?_ ?_
                rotate_left
                · intro w'
                  go_simp
                  with_reducible rfl
                rotate_left
                · simp only [Act.put, List.setIfInBounds_toArray, List.set_cons_zero, List.set_cons_succ, i64_w, i32_w]
                  rfl
                refine take_ (i := 9) (N := some 30) (v := ?_) (a' := ?_) #[true, true, true, true, true, true, true, true, true, true, true, false, false, false, false, false] rfl rfl (take_ofW HT_.out HW_.out (by kernel_rfl)) (fun _ _ _ h => h) (Or.inl ⟨by rfl, ?_⟩) hHeld ?_ ?_
                rotate_left
                · rintro w' ⟨s0, s1, s2, s3, s4, s5, s6, s7⟩
                  go_simp
                  with_reducible rfl
                rotate_left
                · simp only [Act.put, List.setIfInBounds_toArray, List.set_cons_zero, List.set_cons_succ, i64_w, i32_w]
                  rfl
                refine take_ (i := 11) (N := some 32) (v := ?_) (a' := ?_) #[true, true, true, true, true, true, true, true, true, true, true, true, false, false, false, false] rfl rfl (take_ofW HT_.out HW_.out (by kernel_rfl)) (fun _ _ _ h => h) (Or.inl ⟨by rfl, ?_⟩) hHeld ?_ ?_
                rotate_left
                · rintro w' ⟨s0, s1, s2, s3, s4, s5, s6, s7⟩
                  go_simp
                  with_reducible rfl
                rotate_left
                · simp only [Act.put, List.setIfInBounds_toArray, List.set_cons_zero, List.set_cons_succ, i64_w, i32_w]
                  rfl
                refine one_ (i := 12) (N := some 33) #[true, true, true, true, true, true, true, true, true, true, true, true, true, false, false, false] rfl rfl (one_of HT_.out (by kernel_rfl)) (by decide) (fun K hK => ?_)
                refine goes_ Try.func64 (by kernel_rfl) rfl #[.int .i64 (rd l1 a0_0), .int .i64 a0_2] (by rfl) rfl rfl (by (try simp only [List.map_toArray, List.map_cons, List.map_nil]); first | done | rfl | (simp only [List.length_drop, List.length_take]; rfl)) ?_
                with_reducible refine (bound_sum.calls (rd l1 a0_0) a0_2 t104 t105 _ A15.out).mono ?_
                rintro e w18 ⟨rfl, hb⟩
                refine ⟨_, rfl, ?_⟩
                have n0_ := Aside0.mk (blk_below (g := gb101) (o := .cells #[.int .i64 a0_0, .int .i64 a0_1, .int .i64 a0_2, .int .i64 a0_3, .int .i64 a0_4, .bool a0_5] 48 (0, 0)) (by (with_reducible repeat (first | refine blk_drewN ?_ _ | refine blk_drew ?_ | refine blk_alloc ?_ _)); exact BK101.out) hb)
                have n1_ := Aside0.mk (below_step (by repeat (first | (with_reducible first | exact HB.out | apply below_alloc | apply pw_below_drewN | apply below_drew1 | refine below_set ?_ GE101.out) | exact HB.out)) hb)
                clear BK101
                clear HB
                have BK101 := n0_
                have HB := n1_
                clear n0_ n1_
                (try clear hb)
                (try clear hb2)
                (try clear hk)
                (try clear hi)
                refine hK.out _ _ ⟨(blk_cell BK101.out 0).trans rfl, (blk_cell BK101.out 1).trans rfl, (blk_cell BK101.out 2).trans rfl, (blk_cell BK101.out 3).trans rfl, (blk_cell BK101.out 4).trans rfl, (blk_cell BK101.out 5).trans rfl, ((HB.out.cell (World.block_lt_of_cell? w _ hw102_0)).trans hw102_0), ((HB.out.cell (World.block_lt_of_cell? w _ hw103_0)).trans hw103_0)⟩ (fun hHeld => ?_)
                clear hK K
                refine norm_ (a' := ?_) ?_ ?_
                rotate_left
                · show Act.put _ (some 33) _ = _
                  simp only [Act.put, List.setIfInBounds_toArray, List.set_cons_zero, List.set_cons_succ, i64_w, i32_w]
                  rfl
                refine one_ (i := 13) (N := some 34) #[true, true, true, true, true, true, true, true, true, true, true, true, true, true, false, false] rfl rfl (one_of HT_.out (by kernel_rfl)) (by decide) (fun K hK => ?_)
                refine goes_ Try.func63 (by kernel_rfl) rfl #[.int .i64 (rd l1 a0_1), .agg #[.int .u64 t104, .int .u64 t105]] (by rfl) rfl rfl (by (try simp only [List.map_toArray, List.map_cons, List.map_nil]); first | done | rfl | (simp only [List.length_drop, List.length_take]; rfl)) ?_
                with_reducible refine (bound_above.calls (rd l1 a0_1) t104 t105 t106 _ A16.out).mono ?_
                rintro e w19 ⟨rfl, hb⟩
                refine ⟨_, rfl, ?_⟩
                have n0_ := Aside0.mk (blk_below (g := gb101) (o := .cells #[.int .i64 a0_0, .int .i64 a0_1, .int .i64 a0_2, .int .i64 a0_3, .int .i64 a0_4, .bool a0_5] 48 (0, 0)) (by (with_reducible repeat (first | refine blk_drewN ?_ _ | refine blk_drew ?_ | refine blk_alloc ?_ _)); exact BK101.out) hb)
                have n1_ := Aside0.mk (below_step (by repeat (first | (with_reducible first | exact HB.out | apply below_alloc | apply pw_below_drewN | apply below_drew1 | refine below_set ?_ GE101.out) | exact HB.out)) hb)
                clear BK101
                clear HB
                have BK101 := n0_
                have HB := n1_
                clear n0_ n1_
                (try clear hb)
                (try clear hb2)
                (try clear hk)
                (try clear hi)
                refine hK.out _ _ ⟨(blk_cell BK101.out 0).trans rfl, (blk_cell BK101.out 1).trans rfl, (blk_cell BK101.out 2).trans rfl, (blk_cell BK101.out 3).trans rfl, (blk_cell BK101.out 4).trans rfl, (blk_cell BK101.out 5).trans rfl, ((HB.out.cell (World.block_lt_of_cell? w _ hw102_0)).trans hw102_0), ((HB.out.cell (World.block_lt_of_cell? w _ hw103_0)).trans hw103_0)⟩ (fun hHeld => ?_)
                clear hK K
                refine norm_ (a' := ?_) ?_ ?_
                rotate_left
                · show Act.put _ (some 34) _ = _
                  simp only [Act.put, List.setIfInBounds_toArray, List.set_cons_zero, List.set_cons_succ, i64_w, i32_w]
                  rfl
                refine pure_ (i := 14) (N := some 35) (v := ?_) (a' := ?_) #[true, true, true, true, true, true, true, true, true, true, true, true, true, true, true, false] rfl rfl (any_of HT_.out (by kernel_rfl)) (fun _ _ _ h => h) (Or.inl ⟨by rfl, ?_⟩) ?_ ?_
                rotate_left
                · intro w'
                  go_simp
                  with_reducible rfl
                rotate_left
                · simp only [Act.put, List.setIfInBounds_toArray, List.set_cons_zero, List.set_cons_succ, i64_w, i32_w]
                  rfl
                refine pure_ (i := 15) (N := some 4) (v := ?_) (a' := ?_) #[true, true, true, true, true, true, true, true, true, true, true, true, true, true, true, true] rfl rfl (any_of HT_.out (by kernel_rfl)) (fun _ _ _ h => h) (Or.inl ⟨by rfl, ?_⟩) ?_ ?_
                rotate_left
                · intro w'
                  go_simp
                  with_reducible rfl
                rotate_left
                · simp only [Act.put, List.setIfInBounds_toArray, List.set_cons_zero, List.set_cons_succ, i64_w, i32_w]
                  rfl
                refine done_ (done_of HT_.out (by kernel_rfl)) ?_
                try go_wp2
                go_ret
                exact ⟨by first | rfl | (simp [errW_none, errW_some] <;> rfl) | (simp [*, errW_none, errW_some] <;> rfl), by repeat (first | (with_reducible first | exact HB.out | apply below_alloc | apply pw_below_drewN | apply below_drew1 | refine below_set ?_ GE101.out) | exact HB.out)⟩
              · rw [if_neg c14] at H
                exact absurd H (by simp)
            · rw [if_neg c13] at H
              exact absurd H (by simp)
          · rw [if_neg c12] at H
            exact absurd H (by simp)
        · rw [if_neg c11] at H
          exact absurd H (by simp)

/-! ### bound_All: function 35 -/
def bound_All_h (k : Nat) (l1 : List Int) (x : S48) : Option Bool := bound_Holds.f k x.f0 x.f1 x.f2 x.f3.f0 x.f3.f1 x.f4 l1
def bound_All.f (k : Nat) (l0 : List S48) (l1 : List Int) : Option Bool := if (l0.all fun x => (bound_All_h k l1 x).isSome) = true then some (l0.all fun x => (bound_All_h k l1 x).getD false) else none
theorem bound_All_hmono (k : Nat) (l1 : List Int) (x : S48) (h : (bound_All_h k l1 x).isSome = true) : bound_All_h (k + 1) l1 x = bound_All_h k l1 x := by
  obtain ⟨r, hr⟩ := Option.isSome_iff_exists.1 h
  rw [hr]
  exact bound_Holds.mono _ _ _ _ _ _ _ k r hr
theorem bound_All.mono : ∀ a0 a1 k, LeO (bound_All.f k a0 a1) (bound_All.f (k + 1) a0 a1) := by
  intro l0 l1 k r h
  unfold bound_All.f at h ⊢
  by_cases c : (l0.all fun x => (bound_All_h k l1 x).isSome) = true
  · rw [if_pos c] at h
    have hx : ∀ x ∈ l0, bound_All_h (k + 1) l1 x = bound_All_h k l1 x := fun x hx => bound_All_hmono k l1 x (List.all_eq_true.1 c x hx)
    have e1 : (l0.all fun x => (bound_All_h (k + 1) l1 x).isSome) = true := List.all_eq_true.2 fun x hx' => by rw [hx x hx']; exact List.all_eq_true.1 c x hx'
    have e2 : (l0.all fun x => (bound_All_h (k + 1) l1 x).getD false) = (l0.all fun x => (bound_All_h k l1 x).getD false) := by
      rw [Bool.eq_iff_iff, List.all_eq_true, List.all_eq_true]
      exact ⟨fun h2 x hx' => by rw [← hx x hx']; exact h2 x hx', fun h2 x hx' => by rw [hx x hx']; exact h2 x hx'⟩
    rw [if_pos e1, e2]
    exact h
  · rw [if_neg c] at h
    exact absurd h (by simp)
set_option maxHeartbeats 8000000 in
set_option maxRecDepth 100000 in
theorem bound_All_each (k : Nat) (A1 : Option Addr) (c1 : Nat) (l1 : List Int) (B : Nat) (x : S48) (r : Bool) (w W : World) (hb : Below w.heap.size w W) (hr1 : Kd.C (Kd.int .i64) W A1 l1.length l1) (hc1 : l1.length ≤ c1) (hcell : W.cell? ⟨B, 0, none⟩ = some (.slice A1 l1.length c1)) (h : bound_All_h k l1 x = some r) :
    Calls Try.prog 49 (#[(fun x : S48 => Value.agg #[.int .i64 x.f0, .int .i64 x.f1, .int .i64 x.f2, .int .i64 x.f3.f0, .int .i64 x.f3.f1, .bool x.f4]) x] ++ #[.pointer (some ⟨B, 0, none⟩)]) W fun e w' => e = .returned (.bool (!r)) ∧ Below w.heap.size w w' := by
  obtain ⟨a, b, c, d, f⟩ := x
  have HB := Aside0.mk (below_alloc hb (.cells #[.int .i64 a, .int .i64 b, .int .i64 c, .int .i64 d.f0, .int .i64 d.f1, .bool f] 48))
  have HLT := Aside0.mk (World.block_lt_of_cell? W _ hcell)
  have HR := Aside0.mk (Kd.C_alloc hr1 (.cells #[.int .i64 a, .int .i64 b, .int .i64 c, .int .i64 d.f0, .int .i64 d.f1, .bool f] 48))
  have HC := Aside0.mk hc1
  have HH := Aside0.mk h
  clear hb hr1 hc1 h
  show Calls Try.prog 49 #[.agg #[.int .i64 a, .int .i64 b, .int .i64 c, .int .i64 d.f0, .int .i64 d.f1, .bool f], .pointer (some ⟨B, 0, none⟩)] W _
  have hu_ := Try.underlying48
  have hcell2 : (W.alloc (.cells #[.int .i64 a, .int .i64 b, .int .i64 c, .int .i64 d.f0, .int .i64 d.f1, .bool f] 48)).cell? ⟨B, 0, none⟩ = some (.slice A1 l1.length c1) := ((below_alloc (Below.refl W.heap.size W) _).cell HLT.out).trans hcell
  clear hcell
  go_enter Try.func49, Try.ntmps49
  go_wp2_with fail
  refine (bound_Holds.calls k a b c d.f0 d.f1 f A1 c1 l1 r _ HR.out HC.out HH.out).mono ?_
  rintro e w2 ⟨rfl, hb2⟩
  have HB2 := Aside0.mk (below_step HB.out hb2)
  clear hb2 hcell2
  go_wp2
  go_ret
  exact ⟨rfl, HB2.out⟩
set_option maxHeartbeats 8000000 in
set_option maxRecDepth 100000 in
theorem bound_All.calls (k : Nat) (A0 : Option Addr) (c0 : Nat) (l0 : List S48) (A1 : Option Addr) (c1 : Nat) (l1 : List Int) (r : Bool) (w : World) (hr0 : Kd.C k48 w A0 l0.length l0) (hc0 : l0.length ≤ c0) (hr1 : Kd.C (Kd.int .i64) w A1 l1.length l1) (hc1 : l1.length ≤ c1) (h : bound_All.f k l0 l1 = some r) :
    Calls Try.prog 35 #[.slice A0 l0.length c0, .slice A1 l1.length c1] w fun e w' => e = .returned (.bool r) ∧ Below w.heap.size w w' := by
  have hmf : ∀ (fn : Fn) (first cap : Array Value) (w : World), (Instr.makeFunc fn first cap).run Try.prog w = .ok (.func fn first cap) w := fun _ _ _ _ => rfl
  have HB := Aside0.mk (below_alloc (Below.refl w.heap.size w) (.cells #[.slice A1 l1.length c1] 23))
  have HR := Aside0.mk (Kd.C_alloc hr0 (.cells #[.slice A1 l1.length c1] 23))
  unfold bound_All.f at h
  by_cases c : (l0.all fun x => (bound_All_h k l1 x).isSome) = true
  case neg => rw [if_neg c] at h; exact absurd h (by simp)
  rw [if_pos c] at h
  obtain rfl := Option.some.inj h
  have hany : (!(l0.any fun x => !((bound_All_h k l1 x).getD false))) = (l0.all fun x => (bound_All_h k l1 x).getD false) := by
    rw [← List.not_all_eq_any_not]; simp
  have HANY := Aside0.mk hany
  have hcall := api_Edge_42.calls A0 c0 l0 (fun x => !((bound_All_h k l1 x).getD false)) 49 #[.pointer (some ⟨w.heap.size, 0, none⟩)] (fun args w => enters_ (P := Try.prog) Try.func49 (by kernel_rfl) rfl args w) (w.alloc (.cells #[.slice A1 l1.length c1] 23)) HR.out (fun W x hx hb => by
    obtain ⟨b, hb1⟩ := Option.isSome_iff_exists.1 (List.all_eq_true.1 c x hx)
    have := bound_All_each k A1 c1 l1 w.heap.size x b _ W hb (Kd.C_below (Kd.C_alloc hr1 (.cells #[.slice A1 l1.length c1] 23)) hb) hc1 (by rw [hb.cell (p := ⟨w.heap.size, 0, none⟩) (by simp)]; rw [World.cell?_alloc_at _ _ _ _ rfl]; rfl) hb1
    rw [hb1]
    exact this)
  have HC := Aside0.mk hcall
  clear hcall hr0 hc0 hr1 hc1 h c hany
  go_enter Try.func35, Try.ntmps35
  go_wp2_with (go_at_call 42; refine HC.out.mono ?_; rintro e w2 ⟨rfl, hb⟩)
  go_ret
  exact ⟨by rw [← HANY.out]; first | rfl | (simp; done) | (simp [*]; done), below_step HB.out hb⟩


/-! ### slices_Index_bool_bool: function 51 -/
def slices_Index_bool_bool.l0 : Nat → List Bool → Bool → Int → Int → Option (Int)
  | 0, _, _, _, _ => none
  | k + 1, x0, x1, x7, x8 => if x8 < x7 then (if 0 ≤ x8 then (if x8 < (x0.length : Int) then (if (x1 == (rdOf false x0 x8)) = true then (some x8) else (slices_Index_bool_bool.l0 k x0 x1 x7 (wrap64 (x8 + 1)))) else (none)) else (none)) else (some (-1))
def slices_Index_bool_bool.f (k : Nat) (l0 : List Bool) (a1 : Bool) : Option (Int) := slices_Index_bool_bool.l0 k l0 a1 (l0.length : Int) 0
theorem slices_Index_bool_bool.mono_l : ∀ k, (∀ y0 y1 y2 y3, LeO (slices_Index_bool_bool.l0 k y0 y1 y2 y3) (slices_Index_bool_bool.l0 (k + 1) y0 y1 y2 y3))
  | 0 => fun _ _ _ _ r h => by simp [slices_Index_bool_bool.l0] at h
  | k + 1 => by
    have ih0 := slices_Index_bool_bool.mono_l k
    · intro y0 y1 y2 y3
      unfold slices_Index_bool_bool.l0
      repeat' first
      | (with_reducible exact ih0 _ _ _ _)
      | (with_reducible exact LeO.refl _)
      | (with_reducible exact LeO.none _)
      | (with_reducible refine LeO.ite ?_ ?_)
      | (with_reducible refine LeO.bind ?_ (fun _ => ?_))
      | exact ih0 _ _ _ _
      | exact LeO.none _
      | refine LeO.ite ?_ ?_
      | refine LeO.bind ?_ (fun _ => ?_)
theorem slices_Index_bool_bool.mono : ∀ a0 a1 k, LeO (slices_Index_bool_bool.f k a0 a1) (slices_Index_bool_bool.f (k + 1) a0 a1) := by
  intro a0 a1 k
  have ih0 := slices_Index_bool_bool.mono_l k
  unfold slices_Index_bool_bool.f
  repeat' first
      | (with_reducible exact ih0 _ _ _ _)
      | (with_reducible exact LeO.refl _)
      | (with_reducible exact LeO.none _)
      | (with_reducible refine LeO.ite ?_ ?_)
      | (with_reducible refine LeO.bind ?_ (fun _ => ?_))
      | exact ih0 _ _ _ _
      | exact LeO.none _
      | refine LeO.ite ?_ ?_
      | refine LeO.bind ?_ (fun _ => ?_)
set_option maxHeartbeats 8000000 in
set_option maxRecDepth 100000 in
theorem slices_Index_bool_bool.calls (k : Nat) (A0 : Option Addr) (c0 : Nat) (l0 : List Bool) (a1 : Bool) (r : Int) (w : World) (hr0 : Kd.C Kd.bool w A0 l0.length l0) (hc0 : l0.length ≤ c0) (h : slices_Index_bool_bool.f k l0 a1 = some r) :
    Calls Try.prog 51 #[.slice A0 l0.length c0, .bool a1] w fun e w' => e = .returned (.int .i64 r) ∧ Drawn0 w w' := by
  have HR0 := Aside0.mk hr0
  have HC0 := Aside0.mk hc0
  clear hr0 hc0
  have H : (slices_Index_bool_bool.l0 k l0 a1 (l0.length : Int) 0) = some r := h
  clear h
  have H' := Aside0.mk H
  clear H
  go_enter Try.func51, Try.ntmps51
  go_wp2
  go_loopg [8] k (fun kq v8 w' => ∃ (x8_1 : Int), v8 = .int .i64 x8_1 ∧ Aside0 (slices_Index_bool_bool.l0 kq l0 a1 (l0.length : Int) x8_1 = some r) ∧ Aside0 (kq ≤ k) ∧ Drawn0 w w')
  case atStart => exact ⟨(0), (by first | rfl | (simp; done) | (simp [*]; done)), H', ⟨Nat.le_refl _⟩, by repeat (first | exact Drawn0.refl _ | apply Drawn0.step)⟩
  case round =>
    clear H'
    try clear p2
    obtain ⟨x8_1, rfl, HA, HK1, ⟨m1, rfl⟩⟩ := hrel
    cases gk with
    | zero => exact absurd HA.out (by simp [slices_Index_bool_bool.l0])
    | succ k1 =>
      have H := HA.out
      clear HA
      simp only [slices_Index_bool_bool.l0] at H
      by_cases c3 : x8_1 < (l0.length : Int)
      · rw [if_pos c3] at H
        have c3b0 : decide (x8_1 < (l0.length : Int)) = true := decide_eq_true c3
        clear c3
        by_cases c4 : 0 ≤ x8_1
        · rw [if_pos c4] at H
          have c4b0 : decide (0 ≤ x8_1) = true := decide_eq_true c4
          clear c4
          by_cases c5 : x8_1 < (l0.length : Int)
          · rw [if_pos c5] at H
            have c5b0 : decide (x8_1 < (l0.length : Int)) = true := decide_eq_true c5
            clear c5
            by_cases c6 : (a1 == (rdOf false l0 x8_1)) = true
            · rw [if_pos c6] at H
              have c6b0 : (a1 == (rdOf false l0 x8_1)) = true := c6
              (try (have c6b1 : decide (a1 = (rdOf false l0 x8_1)) = true := by simpa using c6))
              (try (have c6b2 : (a1 == (rdOf false l0 x8_1)) = true := by simpa using c6))
              clear c6
              obtain rfl := Option.some.inj H
              have p107 : 0 ≤ (x8_1 : Int) := of_decide_eq_true (by first | (with_reducible assumption) | assumption)
              have q107 : x8_1 < (l0.length : Int) := of_decide_eq_true (by first | (with_reducible assumption) | assumption)
              obtain ⟨ad107, e107, hx107_0⟩ := Kd.at_bool HR0.out x8_1 p107 q107
              cases e107
              replace p107 := eq_true p107
              replace q107 := eq_true q107
              go_wp2
              go_ret
              exact ⟨by first | rfl | (simp; done) | (simp [*]; done), by repeat (first | exact Drawn0.refl _ | apply Drawn0.step)⟩
            · rw [if_neg c6] at H
              have c6b0 : (a1 == (rdOf false l0 x8_1)) = false := by simpa using c6
              (try (have c6b1 : decide (a1 = (rdOf false l0 x8_1)) = false := by simpa using c6))
              (try (have c6b2 : (a1 == (rdOf false l0 x8_1)) = false := by simpa using c6))
              (try (have c6b3 : ¬ (a1 = (rdOf false l0 x8_1)) := by simpa using c6))
              clear c6
              have H' := Aside0.mk H
              clear H
              have p107 : 0 ≤ (x8_1 : Int) := of_decide_eq_true (by first | (with_reducible assumption) | assumption)
              have q107 : x8_1 < (l0.length : Int) := of_decide_eq_true (by first | (with_reducible assumption) | assumption)
              obtain ⟨ad107, e107, hx107_0⟩ := Kd.at_bool HR0.out x8_1 p107 q107
              cases e107
              replace p107 := eq_true p107
              replace q107 := eq_true q107
              go_wp2
              go_roundg k1
              case measure => have := HK1.out; omega
              case rel => exact ⟨(wrap64 (x8_1 + 1)), (by first | rfl | (simp; done) | (simp [*]; done)), H', ⟨by have := HK1.out; omega⟩, by repeat (first | exact Drawn0.refl _ | apply Drawn0.step)⟩
          · rw [if_neg c5] at H
            exact absurd H (by simp)
        · rw [if_neg c4] at H
          exact absurd H (by simp)
      · rw [if_neg c3] at H
        have c3b0 : decide (x8_1 < (l0.length : Int)) = false := decide_eq_false c3
        clear c3
        obtain rfl := Option.some.inj H
        go_wp2
        go_ret
        exact ⟨by first | rfl | (simp; done) | (simp [*]; done), by repeat (first | exact Drawn0.refl _ | apply Drawn0.step)⟩

end Go.Proofs.Ytacjlaiddnfpdaa.CE
