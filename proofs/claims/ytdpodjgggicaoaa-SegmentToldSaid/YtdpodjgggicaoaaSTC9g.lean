/- Layer 6's Get, the program's: it is the plain one of H9. -/
import Derived.Test.YtdpodjgggicaoaaSTC9a
import Derived.Test.YtdpodjgggicaoaaSTx2
set_option linter.unusedVariables false
set_option linter.unusedSimpArgs false
namespace Go.Proofs.Ytdpodjgggicaoaa.ST
open Go.RowKit Go.Proofs.YtdpodjgggicaoaaW.PrintWords Go.Proofs.YtdpodjgggicaoaaW.PrintLast Go.Proofs.YtdpodjgggicaoaaW.PrintMore Go.Proofs.Ytdpodjgggicaoaa.H

theorem pack_Get_evf (b : List Nat) (at_ size : Int) (hb : isB b) (hl : b.length < 4611686018427387904) : Ev (fun k => pack_Get.f k (rowB b) at_ size) (getR b at_ (cnt size)) := ⟨9, fun k hk => pack_Get_nat k hk b at_ size hb hl⟩
theorem fr_wraps (L p n : Nat) (h : p + 6 ≤ L) (hL : L < 1000000000) (hn : n < 65536) :
    wrap64 ((L : Int) - (p : Int)) = ((L - p : Nat) : Int) ∧ wrap64 (((L - p : Nat) : Int) - 6) = ((L - p : Nat) : Int) - 6 ∧ wrap64 (n : Int) = (n : Int) ∧ wrap64 ((p : Int) + 6) = ((p + 6 : Nat) : Int) ∧ wrap64 (((p + 6 : Nat) : Int) + (n : Int)) = ((p + 6 + n : Nat) : Int) := by
  refine ⟨?_, ?_, ?_, ?_, ?_⟩ <;> unfold wrap64 <;> omega
theorem frame_Get_ev (b : List Nat) (at_ : Int) (hb : isB b) (hl : b.length < 1000000000) : Ev (fun k => frame_Get.f k (rowB b) at_) (rowB (frameGet b at_).1, (frameGet b at_).2) := by
  have jt : Ev (fun k => frame_Get.j0 k (rowB b) at_ true) (([] : List Int), (0 : Int), (5 : Int)) := Ev.step (f := fun _ => some ([], 0, 5)) (fun k => by rw [frame_Get.j0, if_pos rfl]) (Ev.now _)
  unfold frameGet
  by_cases c1 : at_ < 0
  · rw [if_pos (Or.inl c1)]
    exact Ev.congr (f := fun k => frame_Get.j0 k (rowB b) at_ true) (fun k => by rw [frame_Get.f, if_pos c1]) jt
  by_cases c2 : at_ ≥ (b.length : Int)
  · rw [if_pos (Or.inr c2)]
    exact Ev.congr (f := fun k => frame_Get.j0 k (rowB b) at_ true) (fun k => by rw [frame_Get.f, if_neg c1, rowB_length, decide_eq_true c2]) jt
  rw [if_neg (by omega)]
  refine Ev.congr (f := fun k => frame_Get.j0 k (rowB b) at_ false) (fun k => by rw [frame_Get.f, if_neg c1, rowB_length, decide_eq_false c2]) ?_
  obtain ⟨p, rfl⟩ := Int.eq_ofNat_of_zero_le (show 0 ≤ at_ by omega)
  rw [Int.toNat_natCast]
  have hs := isB_drop hb p
  have hsl : (b.drop p).length = b.length - p := List.length_drop
  have hw2 : wrap64 ((p : Int) + 2) = ((p + 2 : Nat) : Int) := by rw [w64f _ (by omega) (by omega)]; omega
  have g2 := pack_Get_evf b (p : Int) 2 hb (by omega)
  have g4 := pack_Get_evf b ((p + 2 : Nat) : Int) 4 hb (by omega)
  rw [show cnt 2 = 2 from rfl] at g2
  rw [show cnt 4 = 4 from rfl] at g4
  refine Ev.step (f := fun k => (pack_Get.f k (rowB b) (p : Int) 2).bind fun bt138 => ((pack_Get.f k (rowB b) ((p + 2 : Nat) : Int) 4).bind fun bt140 => (if bt140.2 = true then (if bt138.1 = 0 then (frame_Get.j1 k (rowB b) (p : Int) bt138.1 bt140.1 true) else (frame_Get.j1 k (rowB b) (p : Int) bt138.1 bt140.1 (decide (bt138.1 > 2406)))) else (some (([] : List Int), 0, 2))))) (fun k => by rw [frame_Get.j0, if_neg (by decide), hw2]) ?_
  refine Ev.bind g2 (Ev.bind g4 ?_)
  unfold frameAt
  by_cases c3 : (b.drop p).length < 6
  · rw [if_pos c3]
    have : (getR b ((p + 2 : Nat) : Int) 4).2 = false := by unfold getR getN; rw [if_neg (by omega)]
    exact Ev.congr (f := fun _ => some ([], 0, 2)) (fun k => if_neg (by rw [this]; decide)) (Ev.now _)
  rw [if_neg c3]
  have r2 : getR b (p : Int) 2 = (((num ((b.drop p).take 2) : Nat) : Int), true) := by unfold getR getN; rw [if_pos (by omega), Int.toNat_natCast]
  have r4 : getR b ((p + 2 : Nat) : Int) 4 = (((num (((b.drop p).drop 2).take 4) : Nat) : Int), true) := by unfold getR getN; rw [if_pos (by omega), Int.toNat_natCast, List.drop_drop]
  rw [r2, r4]
  have hn : num ((b.drop p).take 2) < 65536 := by
    refine Nat.lt_of_lt_of_le (num_lt _ (isB_take hs 2)) ?_
    exact Nat.le_trans (Nat.pow_le_pow_right (by decide) (List.length_take_le 2 _)) (by decide)
  have ht : (b.take (p + 6 + num ((b.drop p).take 2))).drop (p + 6) = ((b.drop p).drop 6).take (num ((b.drop p).take 2)) := by
    rw [List.drop_take, List.drop_drop]; congr 1; omega
  generalize hnn : num ((b.drop p).take 2) = n at hn ht ⊢
  generalize num (((b.drop p).drop 2).take 4) = own
  have jf : Ev (fun k => frame_Get.j1 k (rowB b) (p : Int) (n : Int) (own : Int) true) (([] : List Int), (0 : Int), (3 : Int)) := Ev.step (f := fun _ => some ([], 0, 3)) (fun k => by rw [frame_Get.j1, if_pos rfl]) (Ev.now _)
  by_cases c4 : n = 0
  · rw [if_pos c4]
    exact Ev.congr (f := fun k => frame_Get.j1 k (rowB b) (p : Int) (n : Int) (own : Int) true) (fun k => (if_pos rfl).trans (if_pos (by show ((n : Nat) : Int) = 0; omega))) jf
  rw [if_neg c4]
  by_cases c5 : 2406 < n
  · rw [if_pos c5]
    exact Ev.congr (f := fun k => frame_Get.j1 k (rowB b) (p : Int) (n : Int) (own : Int) true) (fun k => (if_pos rfl).trans ((if_neg (by show ¬ ((n : Nat) : Int) = 0; omega)).trans (by rw [decide_eq_true (by show ((n : Nat) : Int) > 2406; omega)]))) jf
  rw [if_neg c5]
  refine Ev.congr (f := fun k => frame_Get.j1 k (rowB b) (p : Int) (n : Int) (own : Int) false) (fun k => (if_pos rfl).trans ((if_neg (by show ¬ ((n : Nat) : Int) = 0; omega)).trans (by rw [decide_eq_false (by show ¬ ((n : Nat) : Int) > 2406; omega)]))) ?_
  have E := Aside0.mk (fr_wraps b.length p n (by omega) (by omega) (by omega))
  by_cases c6 : (b.drop p).length < 6 + n
  · rw [if_pos c6]
    exact Ev.step (f := fun _ => some ([], 0, 2)) (fun k => by rw [frame_Get.j1, if_neg (by decide), rowB_length, E.out.1, E.out.2.1, E.out.2.2.1, if_pos (by omega)]) (Ev.now _)
  rw [if_neg c6]
  have hbl : (((b.drop p).drop 6).take n).length = n := by rw [List.length_take, List.length_drop]; omega
  have hbB : isB (((b.drop p).drop 6).take n) := isB_take (isB_drop hs 6) n
  have es : IntKind.u64.wrap ((fsum (((b.drop p).drop 6).take n) : Nat) : Int) = ((fsum (((b.drop p).drop 6).take n) : Nat) : Int) := by have := fsum_lt _ hbB; rw [wu64]; omega
  have hstep : ∀ k, frame_Get.j1 (k + 1) (rowB b) (p : Int) (n : Int) (own : Int) false = if ((own : Nat) : Int) = ((fsum (((b.drop p).drop 6).take n) : Nat) : Int) then some (rowB (((b.drop p).drop 6).take n), ((p + 6 + n : Nat) : Int), 0) else some ([], 0, 8) := fun k => by
    rw [frame_Get.j1, if_neg (by decide), rowB_length, E.out.1, E.out.2.1, E.out.2.2.1, if_neg (by omega), E.out.2.2.2.1, if_pos (by omega), E.out.2.2.2.2, if_pos (by omega), if_pos (by omega), Int.toNat_natCast, Int.toNat_natCast, rowB_take, rowB_drop, ht, clone_nat _ (by omega), Option.bind_some, frame_sum_nat _ hbB (by omega), Option.bind_some, es]
  by_cases c7 : own ≠ fsum (((b.drop p).drop 6).take n)
  · rw [if_pos c7]
    exact Ev.step (f := fun _ => some ([], 0, 8)) (fun k => by rw [hstep, if_neg (by omega)]) (Ev.now _)
  · rw [if_neg c7]
    refine Ev.step (f := fun _ => some (rowB (((b.drop p).drop 6).take n), ((p + 6 + n : Nat) : Int), 0)) (fun k => by rw [hstep, if_pos (by omega)]) (ev_eqf (Ev.now _) ?_)
    simp only [hbl]
    congr 2
end Go.Proofs.Ytdpodjgggicaoaa.ST
