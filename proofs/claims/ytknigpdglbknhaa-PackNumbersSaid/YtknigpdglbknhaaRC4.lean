/- Layer 2's functions, the program's and the document's, on bytes: they are the plain ones of H4. -/
import Derived.Test.YtknigpdglbknhaaH4
import Derived.Test.YtknigpdglbknhaaRx1
import Derived.Test.YtknigpdglbknhaaRx4
import Derived.Test.YtknigpdglbknhaaRx5
import Derived.Laws.BitsAllLaws
set_option linter.unusedVariables false
set_option linter.unusedSimpArgs false
namespace Go.Proofs.Ytknigpdglbknhaa.R
open Go.RowKit Go.Proofs.YtknigpdglbknhaaW.PrintWords Go.Proofs.YtknigpdglbknhaaW.PrintLast Go.Proofs.YtknigpdglbknhaaW.PrintMore Go.Proofs.Ytknigpdglbknhaa.H

theorem w64 (x : Int) (h0 : 0 ≤ x) (h1 : x ≤ 9223372036854775807) : wrap64 x = x := by unfold wrap64; omega
theorem wu64 (x : Int) : IntKind.u64.wrap x = x % 18446744073709551616 := by simp [IntKind.wrap, IntKind.bits, IntKind.signed]
theorem cnt_mn (size : Int) : mn (mx size 0) 8 = (cnt size : Int) := by
  unfold mn mx cnt
  split <;> split <;> omega
theorem putNums_nb (k : Nat) : ∀ n : Nat, putNums k (n : Int) = rowB (nb k n) := by
  induction k with
  | zero => intro n; rfl
  | succ k ih =>
    intro n
    simp only [putNums, nb, rowB_cons]
    rw [show (n : Int) / 256 = ((n / 256 : Nat) : Int) by omega, ih, show (n : Int) % 256 = ((n % 256 : Nat) : Int) by omega]
theorem pack_Put_nat (b : List Nat) (n : Nat) (size : Int) (hl : b.length + 8 < 140737488355328) : pack_Put.f (rowB b) (n : Int) size = some (rowB (b ++ nb (cnt size) n)) := by
  unfold pack_Put.f
  rw [rowB_length, if_pos hl, cnt_mn, Int.toNat_natCast, putNums_nb, rowB_append]
theorem ref_Count_nat (size : Int) : merkhetref02_Count.f size = some (cnt size : Int) := by
  unfold merkhetref02_Count.f cnt
  split
  · congr 1; omega
  · split
    · congr 1; omega
    · congr 1; omega
theorem ref_Put_loop (size : Int) : ∀ (d i n : Nat) (acc : List Nat), i + d = cnt size → isB acc → acc.length = i → n < 18446744073709551616 →
    merkhetref02_Put.l0 (d + 1) (n : Int) size (txt acc) (i : Int) = some (txt (acc ++ nb d n)) := by
  have hc := cnt_le size
  intro d
  induction d with
  | zero =>
    intro i n acc hi ha hl hn
    rw [merkhetref02_Put.l0, ref_Count_nat]
    simp only [Option.bind_some]
    rw [if_neg (by omega)]
    simp [nb]
  | succ d ih =>
    intro i n acc hi ha hl hn
    have h1 : Int.tmod (n : Int) 256 % 256 = ((n % 256 : Nat) : Int) := by rw [Int.tmod_eq_emod_of_nonneg (by omega)]; omega
    have h2 : IntKind.u64.wrap (Int.tdiv (n : Int) 256) = ((n / 256 : Nat) : Int) := by rw [wu64, Int.tdiv_eq_ediv_of_nonneg (by omega)]; omega
    have h3 : wrap64 ((i : Int) + 1) = ((i + 1 : Nat) : Int) := w64 _ (by omega) (by omega)
    rw [merkhetref02_Put.l0, ref_Count_nat]
    simp only [Option.bind_some]
    rw [if_pos (by omega), h1, h2, h3, show ([((n % 256 : Nat) : Int)] : List Int) = rowB [n % 256] from rfl, strOf_rowB, txt_size, txt_size, if_pos (by simp; omega), txt_append]
    rw [ih (i + 1) (n / 256) (acc ++ [n % 256]) (by omega) (isB_append ha (isB_cons (Nat.mod_lt _ (by decide)) isB_nil)) (by simp; omega) (by omega)]
    simp [nb]
theorem ref_Put_nat (K : Nat) (hK : 9 ≤ K) (n : Nat) (size : Int) (hn : n < 18446744073709551616) : merkhetref02_Put.f K (n : Int) size = some (txt (nb (cnt size) n)) := by
  have hc := cnt_le size
  refine at_rounds (merkhetref02_Put.mono (n : Int) size) (show cnt size + 1 ≤ K by omega) ?_
  have := ref_Put_loop size (cnt size) 0 n [] (by omega) isB_nil rfl hn
  rw [List.nil_append] at this
  exact this
/-! Get -/
theorem or_low (x y : Nat) (hx : x < 72057594037927936) (hy : y < 256) : Go.bits .or .u64 ((x * 256 : Nat) : Int) ((y : Nat) : Int) = ((x * 256 + y : Nat) : Int) := by
  rw [u64_or_nat (x * 256) y (by omega) (by omega), nat_join 8 (x * 256) y (by omega) (by omega)]
theorem getD_drop_take (b : List Nat) (p k : Nat) (h : p + k < b.length) : (b.drop p).take (k + 1) = (b.drop p).take k ++ [b.getD (p + k) 0] := by
  have hk : k < (b.drop p).length := by rw [List.length_drop]; omega
  rw [List.take_succ_eq_append_getElem hk, List.getElem_drop, List.getD_eq_getElem?_getD, List.getElem?_eq_getElem h]
  rfl
theorem pack_Get_loop (b : List Nat) (p k : Nat) (hb : isB b) (hk : k ≤ 8) (hp : p + k ≤ b.length) (hl : b.length < 4611686018427387904) : ∀ (d : Nat) (acc : List Nat), d ≤ k → (b.drop p).take k = (b.drop p).take d ++ acc →
    pack_Get.l0 (d + 1) (rowB b) (p : Int) ((num acc : Nat) : Int) ((d : Int) - 1) = some (((num ((b.drop p).take k) : Nat) : Int), true) := by
  intro d
  induction d with
  | zero =>
    intro acc hd h
    rw [pack_Get.l0, if_neg (by omega)]
    rw [h]; simp
  | succ d ih =>
    intro acc hd h
    have hacc : isB acc := isB_right (h ▸ isB_take (isB_drop hb p) k)
    have hal : acc.length = k - (d + 1) := by
      have := congrArg List.length h
      rw [List.length_append, List.length_take, List.length_take, List.length_drop] at this
      omega
    have hlt := num_lt acc hacc
    have hle : 256 ^ acc.length ≤ 72057594037927936 := by
      have : 256 ^ acc.length ≤ 256 ^ 7 := Nat.pow_le_pow_right (by decide) (by omega)
      exact Nat.le_trans this (by decide)
    have hx : num acc < 72057594037927936 := Nat.lt_of_lt_of_le hlt hle
    clear hlt hle
    have hw : wrap64 ((p : Int) + (((d + 1 : Nat) : Int) - 1)) = ((p + d : Nat) : Int) := by rw [w64 _ (by omega) (by omega)]; omega
    have hw2 : wrap64 ((((d + 1 : Nat) : Int) - 1) - 1) = (d : Int) - 1 := by unfold wrap64; omega
    have hy := getD_lt hb (p + d)
    have hu1 : IntKind.u64.wrap (((num acc : Nat) : Int) * 256) = ((num acc * 256 : Nat) : Int) := by rw [wu64]; omega
    have hu2 : IntKind.u64.wrap (((b.getD (p + d) 0 : Nat)) : Int) = ((b.getD (p + d) 0 : Nat) : Int) := by rw [wu64]; omega
    rw [pack_Get.l0, if_pos (by omega), hw, if_pos (by omega), rowB_length, if_pos (by omega), rd_rowB _ _ (by omega), hu1, hu2, or_low _ _ hx hy, hw2]
    have h2 := ih (b.getD (p + d) 0 :: acc) (by omega) (by rw [h, getD_drop_take b p d (by omega)]; simp)
    simp only [num] at h2
    rw [show num acc * 256 + b.getD (p + d) 0 = b.getD (p + d) 0 + 256 * num acc by omega]
    exact h2
theorem pack_there_nat (b : List Nat) (at_ : Int) (k : Nat) (hl : b.length < 4611686018427387904) : pack_there.f (rowB b) at_ (k : Int) = some (decide (0 ≤ at_ ∧ at_ + (k : Int) ≤ (b.length : Int))) := by
  unfold pack_there.f
  rw [rowB_length]
  by_cases h1 : at_ ≥ 0
  · rw [if_pos h1]
    by_cases h2 : at_ ≤ (b.length : Int)
    · rw [if_pos h2, w64 _ (by omega) (by omega)]
      congr 1
      rw [decide_eq_decide]
      omega
    · rw [if_neg h2, decide_eq_false (by omega)]
  · rw [if_neg h1, decide_eq_false (by omega)]
def getR (b : List Nat) (at_ : Int) (k : Nat) : Int × Bool := match getN b at_ k with
  | some n => ((n : Int), true)
  | none => (0, false)
theorem pack_Get_nat (K : Nat) (hK : 9 ≤ K) (b : List Nat) (at_ size : Int) (hb : isB b) (hl : b.length < 4611686018427387904) : pack_Get.f K (rowB b) at_ size = some (getR b at_ (cnt size)) := by
  have hc := cnt_le size
  refine at_rounds (pack_Get.mono (rowB b) at_ size) (show cnt size + 1 ≤ K by omega) ?_
  unfold pack_Get.f
  have h1 : pack_count.f size = some (cnt size : Int) := by unfold pack_count.f; rw [cnt_mn]
  rw [h1]
  simp only [Option.bind_some]
  rw [pack_there_nat b at_ (cnt size) hl]
  simp only [Option.bind_some]
  unfold getR getN
  by_cases h : 0 ≤ at_ ∧ at_ + (cnt size : Int) ≤ (b.length : Int)
  · rw [decide_eq_true h, if_pos rfl, if_pos h]
    obtain ⟨p, rfl⟩ := Int.eq_ofNat_of_zero_le h.1
    have hw : wrap64 ((cnt size : Int) - 1) = (cnt size : Int) - 1 := by unfold wrap64; omega
    have := pack_Get_loop b p (cnt size) hb hc (by omega) hl (cnt size) [] (Nat.le_refl _) (by simp)
    rw [hw]
    rw [Int.toNat_natCast]
    exact this
  · rw [decide_eq_false h, if_neg (by decide), if_neg h]
theorem get_nums (N P y z : Nat) (hz : P * y = z) (hy : y < 256) (hlt : N + z < 18446744073709551616) : IntKind.u64.wrap ((y : Nat) : Int) = ((y : Nat) : Int) ∧ IntKind.u64.wrap (((P : Nat) : Int) * ((y : Nat) : Int)) = ((z : Nat) : Int) ∧
    IntKind.u64.wrap (((N : Nat) : Int) + ((z : Nat) : Int)) = ((N + z : Nat) : Int) ∧ IntKind.u64.wrap (((P : Nat) : Int) * 256) = ((P * 256 % 18446744073709551616 : Nat) : Int) := by
  refine ⟨by rw [wu64]; omega, ?_, by rw [wu64]; omega, by rw [wu64]; omega⟩
  rw [wu64, ← Int.natCast_mul, hz]
  omega
set_option maxHeartbeats 1000000 in
theorem ref_Get_loop (b : List Nat) (p k : Nat) (hb : isB b) (hk : k ≤ 8) (hp : p + k ≤ b.length) (hl : b.length < 4611686018427387904) : ∀ (d i : Nat) (acc : List Nat), i + d = k → acc = (b.drop p).take i →
    merkhetref02_Get.l0 (d + 1) (txt b) (p : Int) (k : Int) ((num acc : Nat) : Int) ((256 ^ i % 18446744073709551616 : Nat) : Int) (i : Int) = some (((num ((b.drop p).take k) : Nat) : Int), true) := by
  intro d
  induction d with
  | zero =>
    intro i acc hi h
    rw [merkhetref02_Get.l0, if_neg (by omega), h]
    rw [show i = k by omega]
  | succ d ih =>
    intro i acc hi h
    have hil : i < k := by omega
    have hacc : isB acc := h ▸ isB_take (isB_drop hb p) i
    have hal : acc.length = i := by rw [h, List.length_take, List.length_drop]; omega
    have hy := getD_lt hb (p + i)
    have hsn : acc ++ [b.getD (p + i) 0] = (b.drop p).take (i + 1) := by rw [h, getD_drop_take b p i (by omega)]
    have hnum : num (acc ++ [b.getD (p + i) 0]) = num acc + 256 ^ i * b.getD (p + i) 0 := by rw [num_append, hal]; simp [num]
    have hlt : num (acc ++ [b.getD (p + i) 0]) < 256 ^ 8 := by
      refine Nat.lt_of_lt_of_le (num_lt _ (isB_append hacc (isB_cons hy isB_nil))) (Nat.pow_le_pow_right (by decide) ?_)
      rw [List.length_append, hal]; simp; omega
    have hpow : 256 ^ i % 18446744073709551616 = 256 ^ i := Nat.mod_eq_of_lt (Nat.lt_of_lt_of_le (Nat.pow_lt_pow_right (by decide) (show i < 8 by omega)) (by decide))
    have e8 : (256 : Nat) ^ 8 = 18446744073709551616 := by decide
    rw [hnum, e8] at hlt
    obtain ⟨hu2, hu3, hu4, hu5⟩ := get_nums (num acc) (256 ^ i) (b.getD (p + i) 0) _ rfl hy hlt
    have hw : wrap64 ((p : Int) + (i : Int)) = ((p + i : Nat) : Int) := by clear hu2 hu3 hu4 hu5 hlt hpow hnum; exact w64 _ (by omega) (by omega)
    have hw3 : wrap64 ((i : Int) + 1) = ((i + 1 : Nat) : Int) := by clear hu2 hu3 hu4 hu5 hlt hpow hnum; exact w64 _ (by omega) (by omega)
    have c1 : (i : Int) < (k : Int) := by clear hu2 hu3 hu4 hu5 hlt hpow hnum; omega
    have c2 : ((p + i : Nat) : Int) < (b.length : Int) := by clear hu2 hu3 hu4 hu5 hlt hpow hnum; omega
    have c3 : p + i < b.length := by clear hu2 hu3 hu4 hu5 hlt hpow hnum; omega
    have c4 : i + 1 + d = k := by clear hu2 hu3 hu4 hu5 hlt hpow hnum; omega
    rw [hpow, merkhetref02_Get.l0, if_pos c1, hw, if_pos (Int.natCast_nonneg _), txt_size, if_pos c2, bt_txt b hb _ c3, hu2, hu3, hu4, hu5, hw3]
    have h2 := ih (i + 1) (acc ++ [b.getD (p + i) 0]) c4 hsn
    rw [hnum, Nat.pow_succ] at h2
    exact h2
theorem ref_Get_nat (K : Nat) (hK : 10 ≤ K) (b : List Nat) (at_ size : Int) (hb : isB b) (hl : b.length < 4611686018427387904) : merkhetref02_Get.f K (txt b) at_ size = some (getR b at_ (cnt size)) := by
  have hc := cnt_le size
  have hj : ∀ v, merkhetref02_Get.j0 (cnt size + 2) (txt b) at_ (cnt size : Int) v = if v = true then some (0, false) else merkhetref02_Get.l0 (cnt size + 1) (txt b) at_ (cnt size : Int) 0 1 0 := fun v => by rw [merkhetref02_Get.j0]
  refine at_rounds (merkhetref02_Get.mono (txt b) at_ size) (show cnt size + 2 ≤ K by omega) ?_
  unfold merkhetref02_Get.f
  rw [ref_Count_nat]
  simp only [Option.bind_some]
  rw [txt_size]
  unfold getR getN
  by_cases h : 0 ≤ at_ ∧ at_ + (cnt size : Int) ≤ (b.length : Int)
  · rw [if_neg (by omega), if_neg (by omega), w64 _ (by omega) (by omega), decide_eq_false (by omega), hj, if_neg (by decide), if_pos h]
    obtain ⟨p, rfl⟩ := Int.eq_ofNat_of_zero_le h.1
    have := ref_Get_loop b p (cnt size) hb hc (by omega) hl (cnt size) 0 [] (by omega) (by simp)
    rw [Int.toNat_natCast]
    exact this
  · rw [if_neg h]
    by_cases h1 : at_ < 0
    · rw [if_pos h1, hj, if_pos rfl]
    · rw [if_neg h1]
      by_cases h2 : at_ > (b.length : Int)
      · rw [if_pos h2, hj, if_pos rfl]
      · rw [if_neg h2, w64 _ (by omega) (by omega), decide_eq_true (by omega), hj, if_pos rfl]
end Go.Proofs.Ytknigpdglbknhaa.R
