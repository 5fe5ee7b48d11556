/- Layer 7's head, the program's: Head, begin, and Read of at most 14 bytes. -/
import Derived.Test.YtdpodjgggicaoaaH27
import Derived.Test.YtdpodjgggicaoaaSTC9g
import Derived.Test.YtdpodjgggicaoaaSTx1
import Derived.Test.YtdpodjgggicaoaaSTx5
set_option linter.unusedVariables false
set_option linter.unusedSimpArgs false
namespace Go.Proofs.Ytdpodjgggicaoaa.ST
open Go.RowKit Go.Proofs.YtdpodjgggicaoaaW.PrintWords Go.Proofs.YtdpodjgggicaoaaW.PrintLast Go.Proofs.YtdpodjgggicaoaaW.PrintMore Go.Proofs.Ytdpodjgggicaoaa.H

theorem head_may_nat (n keep : Int) : segment_head_may.f n keep = some (decide (1 ≤ keep ∧ keep ≤ 16)) := by
  unfold segment_head_may.f
  by_cases h : keep ≥ 1
  · rw [if_pos h]
    by_cases h2 : keep ≤ 16
    · rw [decide_eq_true h2, decide_eq_true ⟨h, h2⟩]
    · rw [decide_eq_false h2, decide_eq_false (fun x => h2 x.2)]
  · rw [if_neg h, decide_eq_false (fun x => h x.1)]
theorem segment_Head_nat (n : Nat) (hn : n < 4294967296) (keep : Int) : segment_Head.f (n : Int) keep = some (rowB (segPut n keep).1, (segPut n keep).2) := by
  unfold segment_Head.f segPut
  rw [head_may_nat, Option.bind_some]
  by_cases h : 1 ≤ keep ∧ keep ≤ 16
  · rw [decide_eq_true h, if_pos rfl, if_pos h]
    obtain ⟨q, rfl⟩ := Int.eq_ofNat_of_zero_le (show 0 ≤ keep by omega)
    have w1 : IntKind.u64.wrap (n : Int) = (n : Int) := by rw [wu64]; omega
    have w2 : IntKind.u64.wrap (q : Int) = (q : Int) := by rw [wu64]; omega
    have hs : sumFrom 0 (segBody n q) < 4294967296 := sumFrom_small _ _ (by decide) (segBody_isB n q)
    have w3 : IntKind.u64.wrap ((sumFrom 0 (segBody n q) : Nat) : Int) = ((sumFrom 0 (segBody n q) : Nat) : Int) := by rw [wu64]; omega
    have p1 := pack_Put_nat segLetters n 4 (by decide)
    have p2 := pack_Put_nat (segLetters ++ nb 4 n) q 2 (by rw [List.length_append, nb_length]; decide)
    have p3 := check_Sum_nat (segBody n q) (segBody_isB n q)
    have p4 := pack_Put_nat (segBody n q) (sumFrom 0 (segBody n q)) 4 (by rw [segBody_length]; decide)
    rw [show cnt 4 = 4 from rfl] at p1 p4
    rw [show cnt 2 = 2 from rfl] at p2
    rw [w1, w2, show ([83, 69, 71, 49] : List Int) = rowB segLetters from rfl, p1, Option.bind_some, p2, Option.bind_some, show rowB (segLetters ++ nb 4 n ++ nb 2 q) = (segBody n q).map (fun n : Nat => (n : Int)) from rfl, p3, Option.bind_some, w3, show (segBody n q).map (fun n : Nat => (n : Int)) = rowB (segBody n q) from rfl, p4, Option.bind_some]
    rfl
  · rw [decide_eq_false h, if_neg (by decide), if_neg h]
    rfl
theorem getR_at (b : List Nat) (p k : Nat) (h : p + k ≤ b.length) : getR b (p : Int) k = (((num ((b.drop p).take k) : Nat) : Int), true) := by
  unfold getR getN
  rw [if_pos (by omega), Int.toNat_natCast]
theorem letters_iff (b : List Nat) (hb : isB b) : ((strOfNums ((rowB b).take 4)).toList = ([83, 69, 71, 49] : List UInt8)) ↔ b.take 4 = segLetters := by
  rw [rowB_take, strOf_rowB, txt_toList, show ([83, 69, 71, 49] : List UInt8) = segLetters.map UInt8.ofNat from rfl]
  exact ⟨fun h => u8_inj (isB_take hb 4) segLetters_isB h, fun h => by rw [h]⟩
theorem segment_begin_ev (b : List Nat) (hb : isB b) (hl : b.length < 1000000000) : Ev (fun k => segment_begin.f k (rowB b)) ((segBegin b).1, (segBegin b).2.1, rowB (segBegin b).2.2.1, (segBegin b).2.2.2) := by
  unfold segBegin segment_begin.f
  by_cases c0 : b.length < 14
  · rw [if_pos c0]
    exact Ev.congr (fun k => if_pos (by rw [rowB_length]; omega)) (Ev.now _)
  rw [if_neg c0]
  have g1 : Ev (fun k => pack_Get.f k (rowB b) 4 4) (((num ((b.drop 4).take 4) : Nat) : Int), true) := ev_eqf (pack_Get_evf b 4 4 hb (by omega)) (getR_at b 4 4 (by omega))
  have g2 : Ev (fun k => pack_Get.f k (rowB b) 8 2) (((num ((b.drop 8).take 2) : Nat) : Int), true) := ev_eqf (pack_Get_evf b 8 2 hb (by omega)) (getR_at b 8 2 (by omega))
  have g3 : Ev (fun k => pack_Get.f k (rowB b) 10 4) (((num ((b.drop 10).take 4) : Nat) : Int), true) := ev_eqf (pack_Get_evf b 10 4 hb (by omega)) (getR_at b 10 4 (by omega))
  refine Ev.congr (fun k => if_neg (by rw [rowB_length]; omega)) (Ev.bind g1 (Ev.bind g2 (Ev.bind g3 ?_)))
  have k4 : (4 : Int) ≤ ((rowB b).length : Int) := by rw [rowB_length]; omega
  have k10 : (10 : Int) ≤ ((rowB b).length : Int) := by rw [rowB_length]; omega
  by_cases c1 : b.take 4 = segLetters
  · have c1' := (letters_iff b hb).2 c1
    rw [if_neg (not_not_intro c1)]
    have hsum : check_Sum.f ((rowB b).take 10) = some ((sumFrom 0 (b.take 10) : Nat) : Int) := by rw [rowB_take]; exact check_Sum_nat (b.take 10) (isB_take hb 10)
    have hs : sumFrom 0 (b.take 10) < 4294967296 := sumFrom_small _ _ (by decide) (isB_take hb 10)
    have w3 : IntKind.u64.wrap ((sumFrom 0 (b.take 10) : Nat) : Int) = ((sumFrom 0 (b.take 10) : Nat) : Int) := by rw [wu64]; omega
    have n4 : num ((b.drop 4).take 4) < 4294967296 := by
      refine Nat.lt_of_lt_of_le (num_lt _ (isB_take (isB_drop hb 4) 4)) (Nat.le_trans (Nat.pow_le_pow_right (by decide) (List.length_take_le 4 _)) (by decide))
    have n2 : num ((b.drop 8).take 2) < 65536 := by
      refine Nat.lt_of_lt_of_le (num_lt _ (isB_take (isB_drop hb 8) 2)) (Nat.le_trans (Nat.pow_le_pow_right (by decide) (List.length_take_le 2 _)) (by decide))
    generalize num ((b.drop 4).take 4) = x4 at *
    generalize num ((b.drop 8).take 2) = x8 at *
    generalize num ((b.drop 10).take 4) = x10 at *
    generalize sumFrom 0 (b.take 10) = sm at *
    have m4 : (x4 : Int) % 4294967296 = (x4 : Int) := by omega
    have m8 : wrap64 (x8 : Int) = (x8 : Int) := w64f _ (by omega) (by omega)
    by_cases c2 : x10 = sm
    · have c2' : (x10 : Int) = IntKind.u64.wrap ((sm : Nat) : Int) := by rw [w3, c2]
      rw [if_neg (not_not_intro c2)]
      by_cases c3 : 1 ≤ x8 ∧ x8 ≤ 16
      · rw [if_pos c3]
        refine Ev.congr (fun k => ?_) (Ev.now _)
        simp only []
        rw [if_pos k4, if_pos c1', if_pos k10, hsum, Option.bind_some, if_pos c2', m4, m8, head_may_nat, Option.bind_some, decide_eq_true (show (1 : Int) ≤ (x8 : Int) ∧ (x8 : Int) ≤ 16 by omega), if_pos rfl]
      · rw [if_neg c3]
        refine Ev.congr (fun k => ?_) (Ev.now _)
        simp only []
        rw [if_pos k4, if_pos c1', if_pos k10, hsum, Option.bind_some, if_pos c2', m4, m8, head_may_nat, Option.bind_some, decide_eq_false (show ¬ ((1 : Int) ≤ (x8 : Int) ∧ (x8 : Int) ≤ 16) by omega), if_neg (by decide)]
        rfl
    · have c2' : ¬ (x10 : Int) = IntKind.u64.wrap ((sm : Nat) : Int) := by rw [w3]; omega
      rw [if_pos c2]
      refine Ev.congr (fun k => ?_) (Ev.now _)
      simp only []
      rw [if_pos k4, if_pos c1', if_pos k10, hsum, Option.bind_some, if_neg c2']
      rfl
  · have c1' := fun h => c1 ((letters_iff b hb).1 h)
    rw [if_pos c1]
    exact Ev.congr (fun k => (if_pos k4).trans (if_neg c1')) (Ev.now _)
theorem segBegin_keep (b : List Nat) (h : (segBegin b).2.2.2 = 0) : 1 ≤ (segBegin b).2.1 ∧ (segBegin b).2.1 ≤ 16 ∧ (segBegin b).2.2.1 = b ∧ 14 ≤ b.length := by
  unfold segBegin at h ⊢
  split
  · rename_i c; rw [if_pos c] at h; exact absurd h (by decide)
  · rename_i c0; rw [if_neg c0] at h
    split
    · rename_i c; rw [if_pos c] at h; exact absurd h (by decide)
    · rename_i c; rw [if_neg c] at h
      split
      · rename_i c; rw [if_pos c] at h; exact absurd h (by decide)
      · rename_i c; rw [if_neg c] at h
        split
        · rename_i c; exact ⟨by have := c.1; simp only []; omega, by have := c.2; simp only []; omega, rfl, by omega⟩
        · rename_i c; rw [if_neg c] at h; exact absurd h (by simp)
theorem segment_Read_14 (b : List Nat) (hb : isB b) (hl : b.length ≤ 14) : Ev (fun k => segment_Read.f k (rowB b)) (seg14 b) := by
  unfold segment_Read.f seg14
  refine Ev.bind (segment_begin_ev b hb (by omega)) ?_
  by_cases h : (segBegin b).2.2.2 = 0
  · obtain ⟨h1, h2, h3, h4⟩ := segBegin_keep b h
    rw [if_pos h]
    have fg := frame_Get_ev b 14 hb (by omega)
    have e : frameGet b 14 = ([], 0, 5) := by unfold frameGet; rw [if_pos (Or.inr (by omega))]
    rw [e] at fg
    refine Ev.congr (f := fun k => segment_Read.l0 k (segBegin b).1 (segBegin b).2.1 (rowB b) (segBegin b).1 (segBegin b).2.1 [] 14 false) (fun k => by simp only []; rw [if_pos h, h3]) ?_
    generalize (segBegin b).1 = x at *
    generalize (segBegin b).2.1 = y at *
    refine Ev.step (f := fun k => (frame_Get.f k (rowB b) 14).bind fun bt217 => (if bt217.2.2 = 0 then ((wire_Get.f k bt217.1).bind fun bt222 => (if bt222.2 = 0 then (segment_Read.l0 k x y (rowB b) x y ([] ++ [bt217.1]) bt217.2.1 false) else (some (x, y, [], 14, ((0 : Int) == y), 0)))) else (some (x, y, [], 14, ((0 : Int) == y), 0)))) (fun k => by rw [segment_Read.l0, if_pos (show (([] : List (List Int)).length : Int) < y by rw [List.length_nil]; omega)]; rfl) ?_
    refine Ev.bind fg ?_
    have hy : ((0 : Int) == y) = false := by rw [beq_eq_false_iff_ne]; omega
    rw [← hy]
    exact Ev.congr (fun k => if_neg (by decide)) (Ev.now _)
  · rw [if_neg h]
    exact Ev.congr (fun k => if_neg h) (Ev.now _)
end Go.Proofs.Ytdpodjgggicaoaa.ST
