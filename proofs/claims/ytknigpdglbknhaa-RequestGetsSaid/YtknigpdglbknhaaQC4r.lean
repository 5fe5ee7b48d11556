/- Layer 2's functions, the document's, on bytes: they are the plain ones of H4. -/
import Derived.Test.YtknigpdglbknhaaQC4
import Derived.Test.YtknigpdglbknhaaQx3
import Derived.Test.YtknigpdglbknhaaQx2
import Derived.Laws.BitsAllLaws
set_option linter.unusedVariables false
set_option linter.unusedSimpArgs false
namespace Go.Proofs.Ytknigpdglbknhaa.Q
open Go.RowKit Go.Proofs.YtknigpdglbknhaaW.PrintWords Go.Proofs.YtknigpdglbknhaaW.PrintLast Go.Proofs.YtknigpdglbknhaaW.PrintMore Go.Proofs.Ytknigpdglbknhaa.H

theorem ref_Count_nat (size : Int) : merkhetref02_Count.f size = some (cnt size : Int) := by
  unfold merkhetref02_Count.f cnt
  split
  · congr 1; omega
  · split
    · congr 1; omega
    · congr 1; omega
theorem ref_Put_loop (size : Int) : ∀ (d i n : Nat) (acc : List Nat), i + d = cnt size → isB acc → acc.length = i → n < 18446744073709551616 →
    merkhetref02_Put.l0 (d + 1) (n : Int) size (txt acc) (i : Int) = some (txt (acc ++ nb d n)) := by
  have hc := cnt_le size
  intro d
  induction d with
  | zero =>
    intro i n acc hi ha hl hn
    rw [merkhetref02_Put.l0, ref_Count_nat]
    simp only [Option.bind_some]
    rw [if_neg (by omega)]
    simp [nb]
  | succ d ih =>
    intro i n acc hi ha hl hn
    have h1 : Int.tmod (n : Int) 256 % 256 = ((n % 256 : Nat) : Int) := by rw [Int.tmod_eq_emod_of_nonneg (by omega)]; omega
    have h2 : IntKind.u64.wrap (Int.tdiv (n : Int) 256) = ((n / 256 : Nat) : Int) := by rw [wu64, Int.tdiv_eq_ediv_of_nonneg (by omega)]; omega
    have h3 : wrap64 ((i : Int) + 1) = ((i + 1 : Nat) : Int) := w64 _ (by omega) (by omega)
    rw [merkhetref02_Put.l0, ref_Count_nat]
    simp only [Option.bind_some]
    rw [if_pos (by omega), h1, h2, h3, show ([((n % 256 : Nat) : Int)] : List Int) = rowB [n % 256] from rfl, strOf_rowB, txt_size, txt_size, if_pos (by simp; omega), txt_append]
    rw [ih (i + 1) (n / 256) (acc ++ [n % 256]) (by omega) (isB_append ha (isB_cons (Nat.mod_lt _ (by decide)) isB_nil)) (by simp; omega) (by omega)]
    simp [nb]
theorem ref_Put_nat (K : Nat) (hK : 9 ≤ K) (n : Nat) (size : Int) (hn : n < 18446744073709551616) : merkhetref02_Put.f K (n : Int) size = some (txt (nb (cnt size) n)) := by
  have hc := cnt_le size
  refine at_rounds (merkhetref02_Put.mono (n : Int) size) (show cnt size + 1 ≤ K by omega) ?_
  have := ref_Put_loop size (cnt size) 0 n [] (by omega) isB_nil rfl hn
  rw [List.nil_append] at this
  exact this
theorem get_nums (N P y z : Nat) (hz : P * y = z) (hy : y < 256) (hlt : N + z < 18446744073709551616) : IntKind.u64.wrap ((y : Nat) : Int) = ((y : Nat) : Int) ∧ IntKind.u64.wrap (((P : Nat) : Int) * ((y : Nat) : Int)) = ((z : Nat) : Int) ∧
    IntKind.u64.wrap (((N : Nat) : Int) + ((z : Nat) : Int)) = ((N + z : Nat) : Int) ∧ IntKind.u64.wrap (((P : Nat) : Int) * 256) = ((P * 256 % 18446744073709551616 : Nat) : Int) := by
  refine ⟨by rw [wu64]; omega, ?_, by rw [wu64]; omega, by rw [wu64]; omega⟩
  rw [wu64, ← Int.natCast_mul, hz]
  omega
set_option maxHeartbeats 1000000 in
theorem ref_Get_loop (b : List Nat) (p k : Nat) (hb : isB b) (hk : k ≤ 8) (hp : p + k ≤ b.length) (hl : b.length < 4611686018427387904) : ∀ (d i : Nat) (acc : List Nat), i + d = k → acc = (b.drop p).take i →
    merkhetref02_Get.l0 (d + 1) (txt b) (p : Int) (k : Int) ((num acc : Nat) : Int) ((256 ^ i % 18446744073709551616 : Nat) : Int) (i : Int) = some (((num ((b.drop p).take k) : Nat) : Int), true) := by
  intro d
  induction d with
  | zero =>
    intro i acc hi h
    rw [merkhetref02_Get.l0, if_neg (by omega), h]
    rw [show i = k by omega]
  | succ d ih =>
    intro i acc hi h
    have hil : i < k := by omega
    have hacc : isB acc := h ▸ isB_take (isB_drop hb p) i
    have hal : acc.length = i := by rw [h, List.length_take, List.length_drop]; omega
    have hy := getD_lt hb (p + i)
    have hsn : acc ++ [b.getD (p + i) 0] = (b.drop p).take (i + 1) := by rw [h, getD_drop_take b p i (by omega)]
    have hnum : num (acc ++ [b.getD (p + i) 0]) = num acc + 256 ^ i * b.getD (p + i) 0 := by rw [num_append, hal]; simp [num]
    have hlt : num (acc ++ [b.getD (p + i) 0]) < 256 ^ 8 := by
      refine Nat.lt_of_lt_of_le (num_lt _ (isB_append hacc (isB_cons hy isB_nil))) (Nat.pow_le_pow_right (by decide) ?_)
      rw [List.length_append, hal]; simp; omega
    have hpow : 256 ^ i % 18446744073709551616 = 256 ^ i := Nat.mod_eq_of_lt (Nat.lt_of_lt_of_le (Nat.pow_lt_pow_right (by decide) (show i < 8 by omega)) (by decide))
    have e8 : (256 : Nat) ^ 8 = 18446744073709551616 := by decide
    rw [hnum, e8] at hlt
    obtain ⟨hu2, hu3, hu4, hu5⟩ := get_nums (num acc) (256 ^ i) (b.getD (p + i) 0) _ rfl hy hlt
    have hw : wrap64 ((p : Int) + (i : Int)) = ((p + i : Nat) : Int) := by clear hu2 hu3 hu4 hu5 hlt hpow hnum; exact w64 _ (by omega) (by omega)
    have hw3 : wrap64 ((i : Int) + 1) = ((i + 1 : Nat) : Int) := by clear hu2 hu3 hu4 hu5 hlt hpow hnum; exact w64 _ (by omega) (by omega)
    have c1 : (i : Int) < (k : Int) := by clear hu2 hu3 hu4 hu5 hlt hpow hnum; omega
    have c2 : ((p + i : Nat) : Int) < (b.length : Int) := by clear hu2 hu3 hu4 hu5 hlt hpow hnum; omega
    have c3 : p + i < b.length := by clear hu2 hu3 hu4 hu5 hlt hpow hnum; omega
    have c4 : i + 1 + d = k := by clear hu2 hu3 hu4 hu5 hlt hpow hnum; omega
    rw [hpow, merkhetref02_Get.l0, if_pos c1, hw, if_pos (Int.natCast_nonneg _), txt_size, if_pos c2, bt_txt b hb _ c3, hu2, hu3, hu4, hu5, hw3]
    have h2 := ih (i + 1) (acc ++ [b.getD (p + i) 0]) c4 hsn
    rw [hnum, Nat.pow_succ] at h2
    exact h2
theorem ref_Get_nat (K : Nat) (hK : 10 ≤ K) (b : List Nat) (at_ size : Int) (hb : isB b) (hl : b.length < 4611686018427387904) : merkhetref02_Get.f K (txt b) at_ size = some (getR b at_ (cnt size)) := by
  have hc := cnt_le size
  have hj : ∀ v, merkhetref02_Get.j0 (cnt size + 2) (txt b) at_ (cnt size : Int) v = if v = true then some (0, false) else merkhetref02_Get.l0 (cnt size + 1) (txt b) at_ (cnt size : Int) 0 1 0 := fun v => by rw [merkhetref02_Get.j0]
  refine at_rounds (merkhetref02_Get.mono (txt b) at_ size) (show cnt size + 2 ≤ K by omega) ?_
  unfold merkhetref02_Get.f
  rw [ref_Count_nat]
  simp only [Option.bind_some]
  rw [txt_size]
  unfold getR getN
  by_cases h : 0 ≤ at_ ∧ at_ + (cnt size : Int) ≤ (b.length : Int)
  · rw [if_neg (by omega), if_neg (by omega), w64 _ (by omega) (by omega), decide_eq_false (by omega), hj, if_neg (by decide), if_pos h]
    obtain ⟨p, rfl⟩ := Int.eq_ofNat_of_zero_le h.1
    have := ref_Get_loop b p (cnt size) hb hc (by omega) hl (cnt size) 0 [] (by omega) (by simp)
    rw [Int.toNat_natCast]
    exact this
  · rw [if_neg h]
    by_cases h1 : at_ < 0
    · rw [if_pos h1, hj, if_pos rfl]
    · rw [if_neg h1]
      by_cases h2 : at_ > (b.length : Int)
      · rw [if_pos h2, hj, if_pos rfl]
      · rw [if_neg h2, w64 _ (by omega) (by omega), decide_eq_true (by omega), hj, if_pos rfl]
end Go.Proofs.Ytknigpdglbknhaa.Q
