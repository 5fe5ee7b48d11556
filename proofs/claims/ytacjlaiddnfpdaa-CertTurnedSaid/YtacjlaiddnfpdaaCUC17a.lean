/- Whether all edges hold, the program's: sums of 64 bits with a carry. -/
import Derived.Test.YtacjlaiddnfpdaaCUx2
import Derived.Laws.Bits64
import Derived.Laws.Bits64b
import Derived.Test.YtacjlaiddnfpdaaH16
set_option linter.unusedVariables false
namespace Go.Proofs.Ytacjlaiddnfpdaa.CU
open Go.RowKit Go.Proofs.Ytacjlaiddnfpdaa.H Go.Proofs.YtacjlaiddnfpdaaW.PrintWords Go.Proofs.YtacjlaiddnfpdaaW.PrintLast Go.Proofs.YtacjlaiddnfpdaaW.PrintMore
theorem xor63_lt (x : Nat) (h : x < 9223372036854775808) : x ^^^ 9223372036854775808 = x + 9223372036854775808 := by
  have h1 := Nat.two_pow_add_eq_or_of_lt (i := 63) (b := x) (by omega) 1
  rw [show x + 9223372036854775808 = 2 ^ 63 * 1 + x by omega, h1, show (9223372036854775808 : Nat) = 2 ^ 63 by decide, Nat.mul_one]
  apply Nat.eq_of_testBit_eq
  intro i
  rw [Nat.testBit_xor, Nat.testBit_or, Nat.testBit_two_pow]
  by_cases hi : 63 = i
  · subst hi
    rw [Nat.testBit_lt_two_pow (by omega)]
    simp
  · rw [decide_eq_false hi]; simp
theorem xor63_ge (x : Nat) (h : 9223372036854775808 ≤ x) (h2 : x < 18446744073709551616) : x ^^^ 9223372036854775808 = x - 9223372036854775808 := by
  have h1 := xor63_lt (x - 9223372036854775808) (by omega)
  rw [show x - 9223372036854775808 + 9223372036854775808 = x by omega] at h1
  rw [← h1, Nat.xor_assoc, Nat.xor_self, Nat.xor_zero, h1]
theorem raised_eq {a : Int} (h0 : -9223372036854775808 ≤ a) (h1 : a ≤ 9223372036854775807) : bound_raised.f a = some (a + 9223372036854775808) := by
  unfold bound_raised.f
  rw [IntKind.wrap_u64, show (a % 18446744073709551616) = (((a % 18446744073709551616).toNat : Nat) : Int) by omega, show (9223372036854775808 : Int) = ((9223372036854775808 : Nat) : Int) from rfl, bits_xor_u64_nat _ _ (by omega) (by omega)]
  by_cases c : 0 ≤ a
  · rw [xor63_lt _ (by omega)]; congr 1; omega
  · rw [xor63_ge _ (by omega) (by omega)]; congr 1; omega
theorem sum_eq {a b : Int} (h0 : -9223372036854775808 ≤ a) (h1 : a ≤ 9223372036854775807) (j0 : -9223372036854775808 ≤ b) (j1 : b ≤ 9223372036854775807) : bound_sum.f a b = some ((a + b + 18446744073709551616) / 18446744073709551616, (a + b + 18446744073709551616) % 18446744073709551616) := by
  unfold bound_sum.f
  rw [raised_eq h0 h1, raised_eq j0 j1, Option.bind_some, Option.bind_some, if_pos (by omega), if_pos (by omega)]
  rw [show a + 9223372036854775808 + (b + 9223372036854775808) = a + b + 18446744073709551616 by omega]
theorem lexic (n m : Int) : (decide ((n + 0 + 18446744073709551616) / 18446744073709551616 > (m + 18446744073709551616) / 18446744073709551616) || (decide ((n + 0 + 18446744073709551616) / 18446744073709551616 = (m + 18446744073709551616) / 18446744073709551616) && decide ((n + 0 + 18446744073709551616) % 18446744073709551616 > (m + 18446744073709551616) % 18446744073709551616))) = decide (n > m) := by
  rw [Bool.eq_iff_iff]
  simp only [Bool.or_eq_true, Bool.and_eq_true, decide_eq_true_eq]
  omega
theorem above_eq {n a b : Int} (h0 : -9223372036854775808 ≤ n) (h1 : n ≤ 9223372036854775807) : bound_above.f n ((a + b + 18446744073709551616) / 18446744073709551616) ((a + b + 18446744073709551616) % 18446744073709551616) = some (decide (n > a + b)) := by
  unfold bound_above.f
  rw [sum_eq h0 h1 (by omega) (by omega), Option.bind_some, lexic n (a + b)]
def i64B (x : Int) : Prop := -9223372036854775808 ≤ x ∧ x ≤ 9223372036854775807
theorem wf_i64B {x : Int} (h : (Lit.int .i64 x).wf = true) : i64B x := by
  simp [Lit.wf, IntKind.min, IntKind.max, IntKind.signed, IntKind.bits] at h
  unfold i64B
  omega
/-- Does an edge hold for numbers? -/
def holdsB (x : List Int) (s : S48) : Prop := 0 ≤ s.f0 ∧ s.f0 < (x.length : Int) ∧ 0 ≤ s.f1 ∧ s.f1 < (x.length : Int) ∧ rd x s.f1 ≤ rd x s.f0 + s.f2
theorem rd_i64B {x : List Int} (h : ∀ v ∈ x, i64B v) (a : Int) (h0 : 0 ≤ a) (h1 : a < (x.length : Int)) : i64B (rd x a) := by
  unfold rd
  rw [List.getD_eq_getElem?_getD, List.getElem?_eq_getElem (show a.toNat < x.length by omega)]
  exact h _ (List.getElem_mem _)
theorem mnB (a b : Int) : (mn a b < 0 ↔ a < 0 ∨ b < 0) := by unfold mn; omega
theorem mxB (a b n : Int) : (mx a b ≥ n ↔ a ≥ n ∨ b ≥ n) := by unfold mx; omega
open Classical in
theorem boundHolds_ev (s : S48) (x : List Int) (hx : ∀ v ∈ x, i64B v) (hs : i64B s.f2) : Ev (fun k => bound_Holds.f k s.f0 s.f1 s.f2 s.f3.f0 s.f3.f1 s.f4 x) (decide (holdsB x s)) := by
  unfold bound_Holds.f
  have hoff : ¬ holdsB x s → Ev (fun k => bound_Holds.j0 k x true s.f0 s.f1 s.f2 s.f3.f0 s.f3.f1 s.f4) (decide (holdsB x s)) := fun h => by
    rw [decide_eq_false h]
    exact Ev.step (f := fun _ => some false) (fun k => by rw [bound_Holds.j0, if_pos rfl]) (Ev.now _)
  by_cases c1 : mn s.f0 s.f1 < 0
  · exact Ev.congr (fun k => by rw [if_pos c1]) (hoff (fun h => by have := (mnB _ _).1 c1; have := h.1; have := h.2.2.1; omega))
  refine Ev.congr (fun k => by rw [if_neg c1]) ?_
  by_cases c2 : mx s.f0 s.f1 ≥ (x.length : Int)
  · rw [decide_eq_true c2]
    exact hoff (fun h => by have := (mxB _ _ _).1 c2; have := h.2.1; have := h.2.2.2.1; omega)
  rw [decide_eq_false c2]
  have c1' : ¬ (s.f0 < 0 ∨ s.f1 < 0) := fun h => c1 ((mnB _ _).2 h)
  have c2' : ¬ (s.f0 ≥ (x.length : Int) ∨ s.f1 ≥ (x.length : Int)) := fun h => c2 ((mxB _ _ _).2 h)
  have i0 : 0 ≤ s.f0 := by omega
  have j0 : 0 ≤ s.f1 := by omega
  have i1 : s.f0 < (x.length : Int) := by omega
  have j1 : s.f1 < (x.length : Int) := by omega
  have r0 := rd_i64B hx s.f0 i0 i1
  have r1 := rd_i64B hx s.f1 j0 j1
  refine Ev.step (f := fun _ => some (!decide (rd x s.f1 > rd x s.f0 + s.f2))) (fun k => ?_) ?_
  · rw [bound_Holds.j0, if_neg Bool.false_ne_true, if_pos j0, if_pos j1, if_pos i0, if_pos i1, sum_eq r0.1 r0.2 hs.1 hs.2, Option.bind_some, above_eq r1.1 r1.2, Option.bind_some]
  · rw [show decide (holdsB x s) = !decide (rd x s.f1 > rd x s.f0 + s.f2) by
      rw [Bool.eq_iff_iff]
      simp only [Bool.not_eq_true', decide_eq_true_eq, decide_eq_false_iff_not]
      exact ⟨fun h => by have := h.2.2.2.2; omega, fun h => ⟨i0, i1, j0, j1, by omega⟩⟩]
    exact Ev.now _
open Classical in
theorem boundAll_ev (l : List S48) (x : List Int) (hx : ∀ v ∈ x, i64B v) (hs : ∀ s ∈ l, i64B s.f2) : Ev (fun k => bound_All.f k l x) (decide (∀ s ∈ l, holdsB x s)) := by
  have hK : ∃ K, ∀ k, K ≤ k → ∀ s ∈ l, bound_All_h k x s = some (decide (holdsB x s)) := by
    induction l with
    | nil => exact ⟨0, fun k _ s hs => by cases hs⟩
    | cons s r ih =>
      obtain ⟨K, hK⟩ := ih (fun t ht => hs t (List.mem_cons_of_mem _ ht))
      obtain ⟨M, hM⟩ := boundHolds_ev s x hx (hs s List.mem_cons_self)
      refine ⟨K + M, fun k hk t ht => ?_⟩
      rcases List.mem_cons.1 ht with e | e
      · rw [e]; exact hM k (by omega)
      · exact hK k (by omega) t e
  obtain ⟨K, hK⟩ := hK
  refine ⟨K, fun k hk => ?_⟩
  unfold bound_All.f
  have h := hK k hk
  have e1 : (l.all fun s => (bound_All_h k x s).isSome) = true := List.all_eq_true.2 fun s hs => by rw [h s hs]; rfl
  show (if (l.all fun s => (bound_All_h k x s).isSome) = true then some (l.all fun s => (bound_All_h k x s).getD false) else none) = _
  rw [if_pos e1]
  congr 1
  rw [Bool.eq_iff_iff, List.all_eq_true, decide_eq_true_eq]
  exact ⟨fun ha s hs => by have := ha s hs; rw [h s hs] at this; exact of_decide_eq_true this, fun ha s hs => by rw [h s hs]; exact decide_eq_true (ha s hs)⟩
end Go.Proofs.Ytacjlaiddnfpdaa.CU
