/- Layers 2 to 7: what SegmentReads needs, in one text. -/
import Derived.Test.YtdpodjgggicaoaaH1q
import Derived.Test.YtdpodjgggicaoaaSSx1q
import Derived.Test.YtdpodjgggicaoaaH4q
import Derived.Test.YtdpodjgggicaoaaSSx2q
import Derived.Laws.BitsAllLaws
import Derived.Test.YtdpodjgggicaoaaSSx6q
import Derived.Test.YtdpodjgggicaoaaSSx4q
import Derived.Test.YtdpodjgggicaoaaSSx7q
import Derived.Test.YtdpodjgggicaoaaSSx8q
import Derived.Test.YtdpodjgggicaoaaH6q
import Derived.Test.YtdpodjgggicaoaaSSx3q
import Derived.Test.YtdpodjgggicaoaaSSx9q
import Derived.Test.YtdpodjgggicaoaaH7q
import Derived.Test.YtdpodjgggicaoaaSSx5q
import Derived.Test.YtdpodjgggicaoaaSSx10q
import Derived.Test.YtdpodjgggicaoaaH9q
import Derived.Test.YtdpodjgggicaoaaH30q
import Derived.Test.YtdpodjgggicaoaaH27q
import Derived.Test.YtdpodjgggicaoaaH29q
import Derived.Test.YtdpodjgggicaoaaSSx11q
import Derived.Test.YtdpodjgggicaoaaSSx12q
set_option linter.unusedVariables false
set_option linter.unusedSimpArgs false
namespace Go.Proofs.Ytdpodjgggicaoaa.SS
section
open Go.RowKit Go.Proofs.YtdpodjgggicaoaaW.PrintWords Go.Proofs.YtdpodjgggicaoaaW.PrintLast Go.Proofs.Ytdpodjgggicaoaa.H
theorem steps_round (n : Nat) (hn : n < 4294967296) (k : Nat) (i : Int) (hi : 0 ≤ i) (h8 : i < 8) :
    check_steps.l0 (k + 1) (n : Int) i = check_steps.l0 k ((cs n : Nat) : Int) (i + 1) := by
  have hw : wrap64 (i + 1) = i + 1 := by unfold wrap64; omega
  have ha : Go.bits .and .u32 (n : Int) 1 = ((n % 2 : Nat) : Int) := by
    have := u32_and_nat n 1 hn (by decide)
    rw [Nat.and_one_is_mod] at this; exact this
  simp only [check_steps.l0]
  rw [if_pos h8, ha, hw]
  unfold cs
  by_cases h1 : n % 2 = 1
  · rw [if_neg (by omega), if_pos h1]
    congr 1
    have := u32_xor_nat (n / 2) poly (by omega) (by decide)
    exact this
  · rw [if_pos (by omega), if_neg h1]
    rfl
theorem stepTab_nat (n : Nat) (hn : n < 4294967296) : stepTab (n : Int) = ((csn 8 n : Nat) : Int) := by
  have h : check_steps.f 9 (n : Int) = some ((csn 8 n : Nat) : Int) := by
    unfold check_steps.f
    have e : ∀ d : Nat, ∀ (m : Nat), m < 4294967296 → d ≤ 8 → check_steps.l0 (d + 1) (m : Int) (8 - (d : Int)) = some ((csn d m : Nat) : Int) := by
      intro d
      induction d with
      | zero => intro m _ _; simp [check_steps.l0, csn]
      | succ d ih =>
        intro m hm hd
        rw [steps_round m hm (d + 1) _ (by omega) (by omega)]
        have := ih (cs m) (cs_lt hm) (by omega)
        rw [show (8 : Int) - ((d + 1 : Nat) : Int) + 1 = 8 - (d : Int) by omega, this]
        rfl
    have := e 8 n hn (by omega)
    simpa using this
  simp [stepTab, h]
theorem more_step (c x : Nat) (hc : c < 4294967296) (hx : x < 256) :
    Go.bits .xor .u32 ((c : Int) / 256) (stepTab (Go.bits .xor .u8 ((c : Int) % 256) (x : Int))) = ((csn 8 (c ^^^ x) : Nat) : Int) := by
  have h1 : Go.bits .xor .u8 ((c : Int) % 256) (x : Int) = ((c % 256 ^^^ x : Nat) : Int) := u8_xor_nat (c % 256) x (by omega) hx
  have hlt : c % 256 ^^^ x < 256 := Nat.xor_lt_two_pow (n := 8) (by omega) (by omega)
  rw [h1, stepTab_nat _ (by omega)]
  have h2 := u32_xor_nat (c / 256) (csn 8 (c % 256 ^^^ x)) (by omega) (csn_lt 8 (by omega))
  rw [cs_byte] at h2
  exact h2
theorem more_fold (m : List Nat) : ∀ c : Nat, c < 4294967296 → (∀ x ∈ m, x < 256) →
    (m.map (fun n : Nat => (n : Int))).foldl (fun c x => Go.bits .xor .u32 (c / 256) (stepTab (Go.bits .xor .u8 (c % 256) x))) (c : Int) = ((crc c m : Nat) : Int) := by
  induction m with
  | nil => intro c _ _; rfl
  | cons x r ih =>
    intro c hc h
    have hx := h x (by simp)
    simp only [List.map_cons, List.foldl_cons]
    rw [more_step c x hc hx, ih _ (csn_lt 8 (Nat.xor_lt_two_pow (n := 32) hc (by omega))) (fun y hy => h y (by simp [hy]))]
    rfl
theorem check_More_nat (a : Nat) (m : List Nat) (ha : a < 4294967296) (hm : ∀ x ∈ m, x < 256) :
    check_More.f (a : Int) (m.map (fun n : Nat => (n : Int))) = some ((sumFrom a m : Nat) : Int) := by
  unfold check_More.f
  have h1 : Go.bits .xor .u32 4294967295 (a : Int) = ((ones ^^^ a : Nat) : Int) := u32_xor_nat 4294967295 a (by decide) ha
  have hl : ones ^^^ a < 4294967296 := Nat.xor_lt_two_pow (n := 32) (by decide) (by omega)
  rw [h1, more_fold m _ hl hm]
  exact congrArg some (u32_xor_nat 4294967295 _ (by decide) (crc_lt m (by omega) hm))
theorem check_Sum_nat (m : List Nat) (hm : ∀ x ∈ m, x < 256) : check_Sum.f (m.map (fun n : Nat => (n : Int))) = some ((sumFrom 0 m : Nat) : Int) := by
  unfold check_Sum.f
  have := check_More_nat 0 m (by decide) hm
  rw [show ((0 : Nat) : Int) = 0 from rfl] at this
  rw [this]; rfl
end
section
open Go.RowKit Go.Proofs.YtdpodjgggicaoaaW.PrintWords Go.Proofs.YtdpodjgggicaoaaW.PrintLast Go.Proofs.Ytdpodjgggicaoaa.H
theorem ones_xor (c : Nat) (h : c < 4294967296) : ones ^^^ c = ones - c := by
  have h1 := congrArg BitVec.toNat (BitVec.xor_allOnes (x := BitVec.ofNat 32 c))
  rw [BitVec.toNat_xor, BitVec.toNat_not, BitVec.toNat_allOnes, BitVec.toNat_ofNat, Nat.mod_eq_of_lt h] at h1
  rw [Nat.xor_comm]
  exact h1
theorem bt_nums (m : List Nat) (hm : ∀ x ∈ m, x < 256) (i : Nat) (hi : i < m.length) : bt (strOfNums (m.map (fun n : Nat => (n : Int)))) (i : Int) = ((m.getD i 0 : Nat) : Int) := by
  have hx := hm m[i] (List.getElem_mem hi)
  have hs : (strOfNums (m.map (fun n : Nat => (n : Int)))).size = m.length := by rw [strOfNums_size, List.length_map]
  rw [← bt_at _ _ (by rw [hs]; simpa using hi)]
  have : (strOfNums (m.map (fun n : Nat => (n : Int))))[(i : Int).toNat]'(by rw [hs]; simpa using hi) = UInt8.ofNat m[i] := by
    simp [strOfNums, ByteArray.getElem_eq_getElem_data]
  rw [this]
  simp [List.getD_eq_getElem?_getD, List.getElem?_eq_getElem hi, Nat.mod_eq_of_lt hx]
theorem tmod2 (n : Nat) : Int.tmod (n : Int) 2 = ((n % 2 : Nat) : Int) := by
  rw [Int.tmod_eq_emod_of_nonneg (by omega)]; omega
theorem tdiv2 (n : Nat) (h : n < 4294967296) : (Int.tdiv (n : Int) 2) % 4294967296 = ((n / 2 : Nat) : Int) := by
  rw [Int.tdiv_eq_ediv_of_nonneg (by omega)]; omega
theorem ref_bits (s : ByteArray) (K : Nat) (i : Int) (hi : 0 ≤ i) (hi2 : i < 9223372036854775807) : ∀ d : Nat, d ≤ 8 → ∀ c x : Nat, c < 4294967296 → x < 2 ^ d →
    merkhetref03_More.l1 (K + d + 1) s (c : Int) i (x : Int) (8 - (d : Int)) = merkhetref03_More.l0 K s ((csn d (c ^^^ x) : Nat) : Int) (i + 1) := by
  have hw : wrap64 (i + 1) = i + 1 := by unfold wrap64; omega
  intro d
  induction d with
  | zero =>
    intro _ c x hc hx
    obtain rfl : x = 0 := by omega
    simp only [merkhetref03_More.l1]
    rw [if_neg (by omega), hw]
    simp [csn]
  | succ d ih =>
    intro hd c x hc hx
    have hx32 : x < 4294967296 := Nat.lt_of_lt_of_le hx (Nat.pow_le_pow_right (by decide) (show d + 1 ≤ 32 by omega))
    have hx2 : x / 2 < 2 ^ d := by rw [Nat.pow_succ] at hx; omega
    have hw2 : wrap64 (8 - ((d + 1 : Nat) : Int) + 1) = 8 - (d : Int) := by unfold wrap64; omega
    rw [merkhetref03_More.l1, if_pos (by omega), tmod2, tmod2, tdiv2 c hc, tdiv2 x hx32, hw2]
    by_cases hp : c % 2 = x % 2
    · rw [if_pos (by omega), show K + (d + 1) = K + d + 1 by omega, ih (by omega) (c / 2) (x / 2) (by omega) hx2]
      congr 2
      simp only [csn]
      congr 1
      unfold cs
      rw [if_neg (by rw [xor_mod2]; omega), xor_div2]
    · rw [if_neg (by omega)]
      have h1 := u32_xor_nat (c / 2) poly (by omega) (by decide)
      rw [show ((poly : Nat) : Int) = 3988292384 from rfl] at h1
      rw [h1, show K + (d + 1) = K + d + 1 by omega, ih (by omega) (c / 2 ^^^ poly) (x / 2) (Nat.xor_lt_two_pow (n := 32) (by omega) (by decide)) hx2]
      congr 2
      simp only [csn]
      congr 1
      unfold cs
      rw [if_pos (by rw [xor_mod2]; omega), xor_div2, Nat.xor_assoc, Nat.xor_comm poly, ← Nat.xor_assoc]
theorem ref_loop (m : List Nat) (hm : ∀ x ∈ m, x < 256) (hn : m.length < 9223372036854775807) : ∀ d : Nat, ∀ (i c : Nat), i + d = m.length → c < 4294967296 →
    merkhetref03_More.l0 (10 * d + 1) (strOfNums (m.map (fun n : Nat => (n : Int)))) (c : Int) (i : Int) = some ((ones ^^^ crc c (m.drop i) : Nat) : Int) := by
  have hs : (strOfNums (m.map (fun n : Nat => (n : Int)))).size = m.length := by rw [strOfNums_size, List.length_map]
  intro d
  induction d with
  | zero =>
    intro i c hi hc
    simp only [merkhetref03_More.l0]
    rw [if_neg (by rw [hs]; omega), List.drop_of_length_le (by omega), show crc c [] = c from rfl, ones_xor c hc]
    congr 1
    unfold ones
    omega
  | succ d ih =>
    intro i c hi hc
    have hil : i < m.length := by omega
    have hx := hm m[i] (List.getElem_mem hil)
    rw [show 10 * (d + 1) + 1 = (10 * d + 1 + 8 + 1) + 1 by omega]
    simp only [merkhetref03_More.l0]
    rw [if_pos (by rw [hs]; omega), if_pos (by omega), bt_nums m hm i hil]
    have hg : m.getD i 0 = m[i] := by simp [List.getD_eq_getElem?_getD, List.getElem?_eq_getElem hil]
    rw [hg, show (((m[i] : Nat) : Int)) % 4294967296 = ((m[i] : Nat) : Int) by omega]
    have h := ref_bits (strOfNums (m.map (fun n : Nat => (n : Int)))) (10 * d + 1) (i : Int) (by omega) (by omega) 8 (by omega) c m[i] hc (by omega)
    rw [show (8 : Int) - ((8 : Nat) : Int) = 0 from rfl] at h
    rw [h, show ((i : Int) + 1) = ((i + 1 : Nat) : Int) from rfl, ih (i + 1) _ (by omega) (csn_lt 8 (Nat.xor_lt_two_pow (n := 32) hc (by omega)))]
    rw [List.drop_eq_getElem_cons hil]
    rfl
theorem ref_More_nat (a : Nat) (m : List Nat) (ha : a < 4294967296) (hm : ∀ x ∈ m, x < 256) (hn : m.length < 9223372036854775807) :
    merkhetref03_More.f (10 * m.length + 1) (a : Int) (strOfNums (m.map (fun n : Nat => (n : Int)))) = some ((sumFrom a m : Nat) : Int) := by
  unfold merkhetref03_More.f
  have h1 : ((4294967295 : Int) - (a : Int)) % 4294967296 = ((ones ^^^ a : Nat) : Int) := by rw [ones_xor a ha]; unfold ones; omega
  rw [h1]
  have := ref_loop m hm hn m.length 0 (ones ^^^ a) (by omega) (Nat.xor_lt_two_pow (n := 32) (by decide) (by omega))
  rw [List.drop_zero] at this
  exact this
theorem ref_Sum_nat (m : List Nat) (hm : ∀ x ∈ m, x < 256) (hn : m.length < 9223372036854775807) :
    merkhetref03_Sum.f (10 * m.length + 1) (strOfNums (m.map (fun n : Nat => (n : Int)))) = some ((sumFrom 0 m : Nat) : Int) := by
  unfold merkhetref03_Sum.f
  have := ref_More_nat 0 m (by decide) hm hn
  rw [show ((0 : Nat) : Int) = 0 from rfl] at this
  rw [this]; rfl
end
section
open Go.RowKit Go.Proofs.YtdpodjgggicaoaaW.PrintWords Go.Proofs.YtdpodjgggicaoaaW.PrintLast Go.Proofs.YtdpodjgggicaoaaW.PrintMore Go.Proofs.Ytdpodjgggicaoaa.H
theorem w64 (x : Int) (h0 : 0 ≤ x) (h1 : x ≤ 9223372036854775807) : wrap64 x = x := by unfold wrap64; omega
theorem wu64 (x : Int) : IntKind.u64.wrap x = x % 18446744073709551616 := by simp [IntKind.wrap, IntKind.bits, IntKind.signed]
theorem cnt_mn (size : Int) : mn (mx size 0) 8 = (cnt size : Int) := by
  unfold mn mx cnt
  split <;> split <;> omega
theorem putNums_nb (k : Nat) : ∀ n : Nat, putNums k (n : Int) = rowB (nb k n) := by
  induction k with
  | zero => intro n; rfl
  | succ k ih =>
    intro n
    simp only [putNums, nb, rowB_cons]
    rw [show (n : Int) / 256 = ((n / 256 : Nat) : Int) by omega, ih, show (n : Int) % 256 = ((n % 256 : Nat) : Int) by omega]
theorem pack_Put_nat (b : List Nat) (n : Nat) (size : Int) (hl : b.length + 8 < 140737488355328) : pack_Put.f (rowB b) (n : Int) size = some (rowB (b ++ nb (cnt size) n)) := by
  unfold pack_Put.f
  rw [rowB_length, if_pos hl, cnt_mn, Int.toNat_natCast, putNums_nb, rowB_append]
theorem or_low (x y : Nat) (hx : x < 72057594037927936) (hy : y < 256) : Go.bits .or .u64 ((x * 256 : Nat) : Int) ((y : Nat) : Int) = ((x * 256 + y : Nat) : Int) := by
  rw [u64_or_nat (x * 256) y (by omega) (by omega), nat_join 8 (x * 256) y (by omega) (by omega)]
theorem getD_drop_take (b : List Nat) (p k : Nat) (h : p + k < b.length) : (b.drop p).take (k + 1) = (b.drop p).take k ++ [b.getD (p + k) 0] := by
  have hk : k < (b.drop p).length := by rw [List.length_drop]; omega
  rw [List.take_succ_eq_append_getElem hk, List.getElem_drop, List.getD_eq_getElem?_getD, List.getElem?_eq_getElem h]
  rfl
theorem pack_Get_loop (b : List Nat) (p k : Nat) (hb : isB b) (hk : k ≤ 8) (hp : p + k ≤ b.length) (hl : b.length < 4611686018427387904) : ∀ (d : Nat) (acc : List Nat), d ≤ k → (b.drop p).take k = (b.drop p).take d ++ acc →
    pack_Get.l0 (d + 1) (rowB b) (p : Int) ((num acc : Nat) : Int) ((d : Int) - 1) = some (((num ((b.drop p).take k) : Nat) : Int), true) := by
  intro d
  induction d with
  | zero =>
    intro acc hd h
    rw [pack_Get.l0, if_neg (by omega)]
    rw [h]; simp
  | succ d ih =>
    intro acc hd h
    have hacc : isB acc := isB_right (h ▸ isB_take (isB_drop hb p) k)
    have hal : acc.length = k - (d + 1) := by
      have := congrArg List.length h
      rw [List.length_append, List.length_take, List.length_take, List.length_drop] at this
      omega
    have hlt := num_lt acc hacc
    have hle : 256 ^ acc.length ≤ 72057594037927936 := by
      have : 256 ^ acc.length ≤ 256 ^ 7 := Nat.pow_le_pow_right (by decide) (by omega)
      exact Nat.le_trans this (by decide)
    have hx : num acc < 72057594037927936 := Nat.lt_of_lt_of_le hlt hle
    clear hlt hle
    have hw : wrap64 ((p : Int) + (((d + 1 : Nat) : Int) - 1)) = ((p + d : Nat) : Int) := by rw [w64 _ (by omega) (by omega)]; omega
    have hw2 : wrap64 ((((d + 1 : Nat) : Int) - 1) - 1) = (d : Int) - 1 := by unfold wrap64; omega
    have hy := getD_lt hb (p + d)
    have hu1 : IntKind.u64.wrap (((num acc : Nat) : Int) * 256) = ((num acc * 256 : Nat) : Int) := by rw [wu64]; omega
    have hu2 : IntKind.u64.wrap (((b.getD (p + d) 0 : Nat)) : Int) = ((b.getD (p + d) 0 : Nat) : Int) := by rw [wu64]; omega
    rw [pack_Get.l0, if_pos (by omega), hw, if_pos (by omega), rowB_length, if_pos (by omega), rd_rowB _ _ (by omega), hu1, hu2, or_low _ _ hx hy, hw2]
    have h2 := ih (b.getD (p + d) 0 :: acc) (by omega) (by rw [h, getD_drop_take b p d (by omega)]; simp)
    simp only [num] at h2
    rw [show num acc * 256 + b.getD (p + d) 0 = b.getD (p + d) 0 + 256 * num acc by omega]
    exact h2
theorem pack_there_nat (b : List Nat) (at_ : Int) (k : Nat) (hl : b.length < 4611686018427387904) : pack_there.f (rowB b) at_ (k : Int) = some (decide (0 ≤ at_ ∧ at_ + (k : Int) ≤ (b.length : Int))) := by
  unfold pack_there.f
  rw [rowB_length]
  by_cases h1 : at_ ≥ 0
  · rw [if_pos h1]
    by_cases h2 : at_ ≤ (b.length : Int)
    · rw [if_pos h2, w64 _ (by omega) (by omega)]
      congr 1
      rw [decide_eq_decide]
      omega
    · rw [if_neg h2, decide_eq_false (by omega)]
  · rw [if_neg h1, decide_eq_false (by omega)]
def getR (b : List Nat) (at_ : Int) (k : Nat) : Int × Bool := match getN b at_ k with
  | some n => ((n : Int), true)
  | none => (0, false)
theorem pack_Get_nat (K : Nat) (hK : 9 ≤ K) (b : List Nat) (at_ size : Int) (hb : isB b) (hl : b.length < 4611686018427387904) : pack_Get.f K (rowB b) at_ size = some (getR b at_ (cnt size)) := by
  have hc := cnt_le size
  refine at_rounds (pack_Get.mono (rowB b) at_ size) (show cnt size + 1 ≤ K by omega) ?_
  unfold pack_Get.f
  have h1 : pack_count.f size = some (cnt size : Int) := by unfold pack_count.f; rw [cnt_mn]
  rw [h1]
  simp only [Option.bind_some]
  rw [pack_there_nat b at_ (cnt size) hl]
  simp only [Option.bind_some]
  unfold getR getN
  by_cases h : 0 ≤ at_ ∧ at_ + (cnt size : Int) ≤ (b.length : Int)
  · rw [decide_eq_true h, if_pos rfl, if_pos h]
    obtain ⟨p, rfl⟩ := Int.eq_ofNat_of_zero_le h.1
    have hw : wrap64 ((cnt size : Int) - 1) = (cnt size : Int) - 1 := by unfold wrap64; omega
    have := pack_Get_loop b p (cnt size) hb hc (by omega) hl (cnt size) [] (Nat.le_refl _) (by simp)
    rw [hw]
    rw [Int.toNat_natCast]
    exact this
  · rw [decide_eq_false h, if_neg (by decide), if_neg h]
theorem clone_nat (b : List Nat) (hl : b.length < 70368744177664) : slices_Clone_byte_byte.f (rowB b) = some (rowB b) := by
  unfold slices_Clone_byte_byte.f; rw [rowB_length, if_pos (by omega)]
end
section
open Go.RowKit Go.Proofs.YtdpodjgggicaoaaW.PrintWords Go.Proofs.YtdpodjgggicaoaaW.PrintLast Go.Proofs.YtdpodjgggicaoaaW.PrintMore Go.Proofs.Ytdpodjgggicaoaa.H
theorem ref_Count_nat (size : Int) : merkhetref02_Count.f size = some (cnt size : Int) := by
  unfold merkhetref02_Count.f cnt
  split
  · congr 1; omega
  · split
    · congr 1; omega
    · congr 1; omega
theorem ref_Put_loop (size : Int) : ∀ (d i n : Nat) (acc : List Nat), i + d = cnt size → isB acc → acc.length = i → n < 18446744073709551616 →
    merkhetref02_Put.l0 (d + 1) (n : Int) size (txt acc) (i : Int) = some (txt (acc ++ nb d n)) := by
  have hc := cnt_le size
  intro d
  induction d with
  | zero =>
    intro i n acc hi ha hl hn
    rw [merkhetref02_Put.l0, ref_Count_nat]
    simp only [Option.bind_some]
    rw [if_neg (by omega)]
    simp [nb]
  | succ d ih =>
    intro i n acc hi ha hl hn
    have h1 : Int.tmod (n : Int) 256 % 256 = ((n % 256 : Nat) : Int) := by rw [Int.tmod_eq_emod_of_nonneg (by omega)]; omega
    have h2 : IntKind.u64.wrap (Int.tdiv (n : Int) 256) = ((n / 256 : Nat) : Int) := by rw [wu64, Int.tdiv_eq_ediv_of_nonneg (by omega)]; omega
    have h3 : wrap64 ((i : Int) + 1) = ((i + 1 : Nat) : Int) := w64 _ (by omega) (by omega)
    rw [merkhetref02_Put.l0, ref_Count_nat]
    simp only [Option.bind_some]
    rw [if_pos (by omega), h1, h2, h3, show ([((n % 256 : Nat) : Int)] : List Int) = rowB [n % 256] from rfl, strOf_rowB, txt_size, txt_size, if_pos (by simp; omega), txt_append]
    rw [ih (i + 1) (n / 256) (acc ++ [n % 256]) (by omega) (isB_append ha (isB_cons (Nat.mod_lt _ (by decide)) isB_nil)) (by simp; omega) (by omega)]
    simp [nb]
theorem ref_Put_nat (K : Nat) (hK : 9 ≤ K) (n : Nat) (size : Int) (hn : n < 18446744073709551616) : merkhetref02_Put.f K (n : Int) size = some (txt (nb (cnt size) n)) := by
  have hc := cnt_le size
  refine at_rounds (merkhetref02_Put.mono (n : Int) size) (show cnt size + 1 ≤ K by omega) ?_
  have := ref_Put_loop size (cnt size) 0 n [] (by omega) isB_nil rfl hn
  rw [List.nil_append] at this
  exact this
end
section
open Go.RowKit Go.Proofs.YtdpodjgggicaoaaW.PrintWords Go.Proofs.YtdpodjgggicaoaaW.PrintLast Go.Proofs.YtdpodjgggicaoaaW.PrintMore Go.Proofs.Ytdpodjgggicaoaa.H
theorem get_nums (N P y z : Nat) (hz : P * y = z) (hy : y < 256) (hlt : N + z < 18446744073709551616) : IntKind.u64.wrap ((y : Nat) : Int) = ((y : Nat) : Int) ∧ IntKind.u64.wrap (((P : Nat) : Int) * ((y : Nat) : Int)) = ((z : Nat) : Int) ∧
    IntKind.u64.wrap (((N : Nat) : Int) + ((z : Nat) : Int)) = ((N + z : Nat) : Int) ∧ IntKind.u64.wrap (((P : Nat) : Int) * 256) = ((P * 256 % 18446744073709551616 : Nat) : Int) := by
  refine ⟨by rw [wu64]; omega, ?_, by rw [wu64]; omega, by rw [wu64]; omega⟩
  rw [wu64, ← Int.natCast_mul, hz]
  omega
set_option maxHeartbeats 1000000 in
theorem ref_Get_loop (b : List Nat) (p k : Nat) (hb : isB b) (hk : k ≤ 8) (hp : p + k ≤ b.length) (hl : b.length < 4611686018427387904) : ∀ (d i : Nat) (acc : List Nat), i + d = k → acc = (b.drop p).take i →
    merkhetref02_Get.l0 (d + 1) (txt b) (p : Int) (k : Int) ((num acc : Nat) : Int) ((256 ^ i % 18446744073709551616 : Nat) : Int) (i : Int) = some (((num ((b.drop p).take k) : Nat) : Int), true) := by
  intro d
  induction d with
  | zero =>
    intro i acc hi h
    rw [merkhetref02_Get.l0, if_neg (by omega), h]
    rw [show i = k by omega]
  | succ d ih =>
    intro i acc hi h
    have hil : i < k := by omega
    have hacc : isB acc := h ▸ isB_take (isB_drop hb p) i
    have hal : acc.length = i := by rw [h, List.length_take, List.length_drop]; omega
    have hy := getD_lt hb (p + i)
    have hsn : acc ++ [b.getD (p + i) 0] = (b.drop p).take (i + 1) := by rw [h, getD_drop_take b p i (by omega)]
    have hnum : num (acc ++ [b.getD (p + i) 0]) = num acc + 256 ^ i * b.getD (p + i) 0 := by rw [num_append, hal]; simp [num]
    have hlt : num (acc ++ [b.getD (p + i) 0]) < 256 ^ 8 := by
      refine Nat.lt_of_lt_of_le (num_lt _ (isB_append hacc (isB_cons hy isB_nil))) (Nat.pow_le_pow_right (by decide) ?_)
      rw [List.length_append, hal]; simp; omega
    have hpow : 256 ^ i % 18446744073709551616 = 256 ^ i := Nat.mod_eq_of_lt (Nat.lt_of_lt_of_le (Nat.pow_lt_pow_right (by decide) (show i < 8 by omega)) (by decide))
    have e8 : (256 : Nat) ^ 8 = 18446744073709551616 := by decide
    rw [hnum, e8] at hlt
    obtain ⟨hu2, hu3, hu4, hu5⟩ := get_nums (num acc) (256 ^ i) (b.getD (p + i) 0) _ rfl hy hlt
    have hw : wrap64 ((p : Int) + (i : Int)) = ((p + i : Nat) : Int) := by clear hu2 hu3 hu4 hu5 hlt hpow hnum; exact w64 _ (by omega) (by omega)
    have hw3 : wrap64 ((i : Int) + 1) = ((i + 1 : Nat) : Int) := by clear hu2 hu3 hu4 hu5 hlt hpow hnum; exact w64 _ (by omega) (by omega)
    have c1 : (i : Int) < (k : Int) := by clear hu2 hu3 hu4 hu5 hlt hpow hnum; omega
    have c2 : ((p + i : Nat) : Int) < (b.length : Int) := by clear hu2 hu3 hu4 hu5 hlt hpow hnum; omega
    have c3 : p + i < b.length := by clear hu2 hu3 hu4 hu5 hlt hpow hnum; omega
    have c4 : i + 1 + d = k := by clear hu2 hu3 hu4 hu5 hlt hpow hnum; omega
    rw [hpow, merkhetref02_Get.l0, if_pos c1, hw, if_pos (Int.natCast_nonneg _), txt_size, if_pos c2, bt_txt b hb _ c3, hu2, hu3, hu4, hu5, hw3]
    have h2 := ih (i + 1) (acc ++ [b.getD (p + i) 0]) c4 hsn
    rw [hnum, Nat.pow_succ] at h2
    exact h2
theorem ref_Get_nat (K : Nat) (hK : 10 ≤ K) (b : List Nat) (at_ size : Int) (hb : isB b) (hl : b.length < 4611686018427387904) : merkhetref02_Get.f K (txt b) at_ size = some (getR b at_ (cnt size)) := by
  have hc := cnt_le size
  have hj : ∀ v, merkhetref02_Get.j0 (cnt size + 2) (txt b) at_ (cnt size : Int) v = if v = true then some (0, false) else merkhetref02_Get.l0 (cnt size + 1) (txt b) at_ (cnt size : Int) 0 1 0 := fun v => by rw [merkhetref02_Get.j0]
  refine at_rounds (merkhetref02_Get.mono (txt b) at_ size) (show cnt size + 2 ≤ K by omega) ?_
  unfold merkhetref02_Get.f
  rw [ref_Count_nat]
  simp only [Option.bind_some]
  rw [txt_size]
  unfold getR getN
  by_cases h : 0 ≤ at_ ∧ at_ + (cnt size : Int) ≤ (b.length : Int)
  · rw [if_neg (by omega), if_neg (by omega), w64 _ (by omega) (by omega), decide_eq_false (by omega), hj, if_neg (by decide), if_pos h]
    obtain ⟨p, rfl⟩ := Int.eq_ofNat_of_zero_le h.1
    have := ref_Get_loop b p (cnt size) hb hc (by omega) hl (cnt size) 0 [] (by omega) (by simp)
    rw [Int.toNat_natCast]
    exact this
  · rw [if_neg h]
    by_cases h1 : at_ < 0
    · rw [if_pos h1, hj, if_pos rfl]
    · rw [if_neg h1]
      by_cases h2 : at_ > (b.length : Int)
      · rw [if_pos h2, hj, if_pos rfl]
      · rw [if_neg h2, w64 _ (by omega) (by omega), decide_eq_true (by omega), hj, if_pos rfl]
end
section
open Go.RowKit Go.Proofs.YtdpodjgggicaoaaW.PrintWords Go.Proofs.YtdpodjgggicaoaaW.PrintLast Go.Proofs.YtdpodjgggicaoaaW.PrintMore Go.Proofs.Ytdpodjgggicaoaa.H
def getTR (b : List Nat) (at_ : Int) : ByteArray × Bool := match getT b at_ with
  | some s => (txt s, true)
  | none => (⟨#[]⟩, false)
theorem tail17 (b : List Nat) (p : Nat) (h : p + 17 ≤ b.length) : (b.take (p + 17)).drop (p + 1) = ((b.drop p).take 17).tail ∧ ((b.drop p).take 17) = b.getD p 0 :: ((b.drop p).take 17).tail := by
  have h1 : b.drop p = b.getD p 0 :: b.drop (p + 1) := by
    rw [List.drop_eq_getElem_cons (by omega), List.getD_eq_getElem?_getD, List.getElem?_eq_getElem (by omega)]; rfl
  rw [h1]
  constructor
  · rw [List.drop_take]; simp
  · simp
theorem any_zero (l : List Nat) : ((rowB l).any fun c => c != 0) = !(decide (l = List.replicate l.length 0)) := by
  induction l with
  | nil => rfl
  | cons x r ih =>
    simp only [rowB_cons, List.any_cons, ih, List.length_cons, List.replicate_succ, List.cons.injEq]
    by_cases hx : x = 0
    · subst hx; simp
    · have : ((x : Int) != 0) = true := by rw [bne_iff_ne]; omega
      rw [this]
      simp [hx]
theorem pack_GetText_nat (K : Nat) (hK : 1 ≤ K) (b : List Nat) (at_ : Int) (hb : isB b) (hl : b.length < 4611686018427387904) : pack_GetText.f K (rowB b) at_ = some (getTR b at_) := by
  refine at_rounds (pack_GetText.mono (rowB b) at_) hK ?_
  unfold pack_GetText.f
  have ht := pack_there_nat b at_ 17 hl
  rw [show ((17 : Nat) : Int) = 17 from rfl] at ht
  rw [ht]
  simp only [Option.bind_some]
  unfold getTR getT
  by_cases h : 0 ≤ at_ ∧ at_ + 17 ≤ (b.length : Int)
  · rw [decide_eq_true h, if_pos rfl, if_pos h.1, rowB_length, if_pos (by omega), if_pos h]
    obtain ⟨p, rfl⟩ := Int.eq_ofNat_of_zero_le h.1
    have hp : p + 17 ≤ b.length := by omega
    have hy := getD_lt hb p
    have w1 : wrap64 ((p : Int) + 1) = ((p + 1 : Nat) : Int) := w64 _ (by omega) (by omega)
    have w2 : wrap64 ((p : Int) + 17) = ((p + 17 : Nat) : Int) := w64 _ (by omega) (by omega)
    have w3 : wrap64 ((b.getD p 0 : Nat) : Int) = ((b.getD p 0 : Nat) : Int) := w64 _ (by omega) (by omega)
    obtain ⟨t1, t2⟩ := tail17 b p hp
    rw [rd_rowB b p (by omega), Int.toNat_natCast, pack_GetText.j0]
    generalize hT : ((b.drop p).take 17).tail = T at *
    generalize hY : b.getD p 0 = y at *
    have hTl : T.length = 16 := by rw [← hT, List.length_tail, List.length_take, List.length_drop]; omega
    by_cases hy16 : y ≤ 16
    · rw [show decide (((y : Nat) : Int) > 16) = false from decide_eq_false (by omega), if_neg (by decide), w1, w2, if_pos (by omega), if_pos (by omega), rowB_length, if_pos (by omega), if_pos (by omega), if_pos (by omega),
        rd_rowB b p (by omega), hY, w3, if_pos (by omega), Int.toNat_natCast, Int.toNat_natCast, Int.toNat_natCast, rowB_take, rowB_drop, t1, rowB_length, hTl, if_pos (by omega), rowB_drop, rowB_take, strOf_rowB]
      unfold slices_ContainsFunc_byte_byte.f
      rw [if_pos rfl]
      simp only [Option.bind_some]
      rw [any_zero, List.length_drop, hTl, t2]
      have hf : field (T.take y) = y :: T.take y ++ List.replicate (16 - y) 0 := by
        unfold field
        rw [List.length_take, hTl, Nat.min_eq_left hy16, if_pos hy16]
      by_cases hz : T.drop y = List.replicate (16 - y) 0
      · rw [decide_eq_true hz, if_neg (by decide), if_pos ⟨hy16, by
          rw [hf, ← hz, List.cons_append, List.take_append_drop]⟩]
      · rw [decide_eq_false hz, if_pos (by decide), if_neg]
        rintro ⟨_, e⟩
        rw [hf, List.cons_append] at e
        have e2 := (List.cons.inj e).2
        apply hz
        have e3 := congrArg (List.drop y) e2
        rw [List.drop_left' (by rw [List.length_take, hTl]; omega)] at e3
        exact e3
    · rw [show decide (((y : Nat) : Int) > 16) = true from decide_eq_true (by omega), if_pos rfl, if_neg (fun hh => hy16 hh.1)]
  · rw [decide_eq_false h, if_neg (by decide), if_neg h, pack_GetText.j0, if_pos rfl]
end
section
open Go.RowKit Go.Proofs.YtdpodjgggicaoaaW.PrintWords Go.Proofs.YtdpodjgggicaoaaW.PrintLast Go.Proofs.YtdpodjgggicaoaaW.PrintMore Go.Proofs.Ytdpodjgggicaoaa.H
theorem zero_txt : (⟨#[0]⟩ : ByteArray) = txt [0] := rfl
theorem ref_PutText_loop : ∀ (d : Nat) (m : List Nat), m.length + d = 17 → merkhetref02_PutText.l0 (d + 1) (txt m) = some (txt (m ++ List.replicate d 0)) := by
  intro d
  induction d with
  | zero =>
    intro m h
    rw [merkhetref02_PutText.l0, txt_size, if_neg (by omega)]
    simp
  | succ d ih =>
    intro m h
    rw [merkhetref02_PutText.l0, txt_size, if_pos (by omega), if_pos (by omega), zero_txt, txt_append, ih (m ++ [0]) (by simp; omega)]
    simp [List.replicate_succ]
theorem ref_PutText_nat (K : Nat) (hK : 18 ≤ K) (s : List Nat) (hl : s.length ≤ 140737488351232) : merkhetref02_PutText.f K (txt s) = some (txt (field s)) := by
  refine at_rounds (merkhetref02_PutText.mono (txt s)) hK ?_
  unfold merkhetref02_PutText.f field
  rw [txt_size]
  by_cases h : s.length ≤ 16
  · have hw : IntKind.u64.wrap (s.length : Int) = (s.length : Int) := by rw [wu64]; omega
    have hc : cnt 1 = 1 := by decide
    rw [if_neg (by omega), if_pos h, hw, ref_Put_nat 18 (by omega) s.length 1 (by omega), hc]
    simp only [Option.bind_some]
    have hn : nb 1 s.length = [s.length] := by simp only [nb]; rw [show s.length % 256 = s.length by omega]
    rw [hn, txt_append, txt_size, if_pos (by simp; omega)]
    have := ref_PutText_loop (16 - s.length) ([s.length] ++ s) (by simp; omega)
    refine at_rounds (fun k => merkhetref02_PutText.mono_l k _) (show 16 - s.length + 1 ≤ 18 by omega) ?_
    rw [this]
    simp
  · rw [if_pos (by omega), if_neg h]; rfl
theorem ref_GetText_nat (K : Nat) (hK : 20 ≤ K) (b : List Nat) (at_ : Int) (hb : isB b) (hl : b.length < 4611686018427387904) : merkhetref02_GetText.f K (txt b) at_ = some (getTR b at_) := by
  refine at_rounds (merkhetref02_GetText.mono (txt b) at_) hK ?_
  unfold merkhetref02_GetText.f
  rw [txt_size]
  unfold getTR getT
  by_cases h : 0 ≤ at_ ∧ at_ + 17 ≤ (b.length : Int)
  · rw [if_neg (by omega), if_neg (by omega), w64 _ (by omega) (by omega), decide_eq_false (by omega), if_pos h]
    obtain ⟨p, rfl⟩ := Int.eq_ofNat_of_zero_le h.1
    have hp : p + 17 ≤ b.length := by omega
    have hy := getD_lt hb p
    have w1 : wrap64 ((p : Int) + 1) = ((p + 1 : Nat) : Int) := w64 _ (by omega) (by omega)
    have w2 : wrap64 ((p : Int) + 17) = ((p + 17 : Nat) : Int) := w64 _ (by omega) (by omega)
    have w3 : wrap64 ((b.getD p 0 : Nat) : Int) = ((b.getD p 0 : Nat) : Int) := w64 _ (by omega) (by omega)
    have w4 : wrap64 (((p + 1 : Nat) : Int) + ((b.getD p 0 : Nat) : Int)) = ((p + 1 + b.getD p 0 : Nat) : Int) := w64 _ (by omega) (by omega)
    obtain ⟨t1, t2⟩ := tail17 b p hp
    rw [merkhetref02_GetText.j0, if_neg (by decide), txt_size, if_pos (by omega), if_pos (by omega), bt_txt b hb p (by omega), w3, w1, w4, w2, Int.toNat_natCast]
    by_cases hy16 : b.getD p 0 ≤ 16
    · have e1 : (b.take (p + 1 + b.getD p 0)).drop (p + 1) = (((b.drop p).take 17).tail).take (b.getD p 0) := by
        rw [← t1, List.drop_take, List.drop_take, List.take_take]
        congr 1
        omega
      have e2 : (b.take (p + 17)).drop p = (b.drop p).take 17 := by rw [List.drop_take]; congr 1; omega
      rw [if_neg (by omega), if_pos (by omega), if_pos (by omega), if_pos (by omega), Int.toNat_natCast, Int.toNat_natCast, Int.toNat_natCast, txt_extract, txt_extract, e1, e2, ref_PutText_nat 19 (by omega) _ (by rw [List.length_take]; omega)]
      simp only [Option.bind_some]
      have hbt : isB (((b.drop p).take 17).tail.take (b.getD p 0)) := by
        apply isB_take
        intro x hx
        exact isB_take (isB_drop hb p) 17 x (List.mem_of_mem_tail hx)
      rw [if_pos (by omega), if_pos (by omega)]
      by_cases he : (b.drop p).take 17 = field ((((b.drop p).take 17).tail).take (b.getD p 0))
      · rw [if_pos ((txt_eq_iff (field_isB hbt) (isB_take (isB_drop hb p) 17)).2 he.symm), if_pos ⟨hy16, he⟩]
      · rw [if_neg (fun e => he ((txt_eq_iff (field_isB hbt) (isB_take (isB_drop hb p) 17)).1 e).symm), if_neg (fun hh => he hh.2)]
    · rw [if_pos (by omega), if_neg (fun hh => hy16 hh.1)]
  · rw [if_neg h]
    by_cases h1 : at_ < 0
    · rw [if_pos h1, merkhetref02_GetText.j0, if_pos rfl]
    · rw [if_neg h1]
      by_cases h2 : at_ > (b.length : Int)
      · rw [if_pos h2, merkhetref02_GetText.j0, if_pos rfl]
      · rw [if_neg h2, w64 _ (by omega) (by omega), decide_eq_true (by omega), merkhetref02_GetText.j0, if_pos rfl]
end
section
open Go.RowKit Go.Proofs.YtdpodjgggicaoaaW.PrintWords Go.Proofs.YtdpodjgggicaoaaW.PrintLast Go.Proofs.YtdpodjgggicaoaaW.PrintMore Go.Proofs.Ytdpodjgggicaoaa.H
theorem w64_ (x : Int) (h0 : 0 ≤ x) (h1 : x ≤ 9223372036854775807) : wrap64 x = x := by unfold wrap64; omega
theorem ev_eq {α : Type} {g : Nat → Option α} {r r' : α} (h : Ev g r) (e : r = r') : Ev g r' := e ▸ h
theorem span_letter_eq (c : Int) : span_letter.f c = some (letterB c) := by
  have hb : (c == 95) = decide (c = 95) := by by_cases h : c = 95 <;> simp [h]
  unfold span_letter.f letterB
  rw [hb]
  (repeat' split) <;> (congr 1; simp; omega)
theorem drop_all {m : List Nat} {i : Nat} (h : i < m.length) (p : Nat → Bool) : (m.drop i).all p = (p (m.getD i 0) && (m.drop (i + 1)).all p) := by
  rw [List.drop_eq_getElem_cons h, List.all_cons, List.getD_eq_getElem?_getD, List.getElem?_eq_getElem h]; rfl
theorem drop_any {m : List Nat} {i : Nat} (h : i < m.length) (p : Nat → Bool) : (m.drop i).any p = (p (m.getD i 0) || (m.drop (i + 1)).any p) := by
  rw [List.drop_eq_getElem_cons h, List.any_cons, List.getD_eq_getElem?_getD, List.getElem?_eq_getElem h]; rfl
theorem span_Name_l0 (m : List Nat) (hb : isB m) (hl : m.length < 4611686018427387904) : ∀ (d i : Nat), i + d = m.length → Ev (fun k => span_Name.l0 k (txt m) (m.length : Int) (i : Int)) ((m.drop i).all fun c => letterB (c : Int)) := by
  intro d
  induction d with
  | zero =>
    intro i hi
    rw [List.drop_of_length_le (by omega)]
    exact Ev.step (f := fun _ => some true) (fun k => by rw [span_Name.l0, if_neg (by omega)]) (Ev.now _)
  | succ d ih =>
    intro i hi
    have hil : i < m.length := by omega
    have e : wrap64 ((i : Int) + 1) = ((i + 1 : Nat) : Int) := w64_ _ (by omega) (by omega)
    rw [drop_all hil]
    cases hc : letterB ((m.getD i 0 : Nat) : Int) with
    | true =>
      rw [Bool.true_and]
      refine Ev.step (f := fun k => span_Name.l0 k (txt m) (m.length : Int) ((i + 1 : Nat) : Int)) (fun k => ?_) (ih (i + 1) (by omega))
      rw [span_Name.l0, if_pos (by omega), if_pos (by omega), txt_size, if_pos (by omega), bt_txt m hb i hil, span_letter_eq, Option.bind_some, hc, if_pos rfl, e]
    | false =>
      rw [Bool.false_and]
      refine Ev.step (f := fun _ => some false) (fun k => ?_) (Ev.now _)
      rw [span_Name.l0, if_pos (by omega), if_pos (by omega), txt_size, if_pos (by omega), bt_txt m hb i hil, span_letter_eq, Option.bind_some, hc, if_neg (by decide)]
theorem span_Name_ev (m : List Nat) (hb : isB m) (hl : m.length < 4611686018427387904) : Ev (fun k => span_Name.f k (txt m)) (nameB m) := by
  have key : ∀ b : Bool, Ev (fun k => span_Name.j0 k (txt m) b) (!b && m.all fun c => letterB (c : Int)) := by
    intro b
    cases b with
    | true => exact Ev.step (f := fun _ => some false) (fun k => by rw [span_Name.j0, if_pos rfl]) (Ev.now _)
    | false =>
      have := span_Name_l0 m hb hl m.length 0 (by omega)
      rw [List.drop_zero] at this
      exact Ev.step (f := fun k => span_Name.l0 k (txt m) (m.length : Int) ((0 : Nat) : Int)) (fun k => by rw [span_Name.j0, if_neg (by decide), txt_size]; rfl) this
  unfold nameB
  by_cases h1 : (m.length : Int) < 1
  · refine ev_eq (Ev.congr (f := fun k => span_Name.j0 k (txt m) true) (fun k => by rw [span_Name.f, txt_size, if_pos h1]) (key true)) ?_
    rw [decide_eq_false (by omega)]; rfl
  · refine ev_eq (Ev.congr (f := fun k => span_Name.j0 k (txt m) (decide ((m.length : Int) > 16))) (fun k => by rw [span_Name.f, txt_size, if_neg h1]) (key _)) ?_
    rw [decide_eq_true (show 1 ≤ m.length by omega), Bool.true_and]
    congr 1
    by_cases h2 : (m.length : Int) > 16
    · rw [decide_eq_true h2, decide_eq_false (by omega)]; rfl
    · rw [decide_eq_false h2, decide_eq_true (by omega)]; rfl
theorem signs_txt : (⟨#[97, 98, 99, 100, 101, 102, 103, 104, 105, 106, 107, 108, 109, 110, 111, 112, 113, 114, 115, 116, 117, 118, 119, 120, 121, 122, 48, 49, 50, 51, 52, 53, 54, 55, 56, 57, 45, 46, 95]⟩ : ByteArray) = txt signs := rfl
theorem ref_Name_l1 (m : List Nat) (hb : isB m) (i : Nat) (hi : i < m.length) (r : Bool) (e : wrap64 ((i : Int) + 1) = ((i + 1 : Nat) : Int)) (hr : Ev (fun k => merkhetref01_Name.l0 k (txt m) (txt signs) ((i + 1 : Nat) : Int)) r) : ∀ (d j : Nat) (b : Bool), j + d = 39 →
    Ev (fun k => merkhetref01_Name.l1 k (txt m) (txt signs) (i : Int) b (j : Int)) ((b || (signs.drop j).any fun s => decide ((s : Int) = ((m.getD i 0 : Nat) : Int))) && r) := by
  have h39 : signs.length = 39 := rfl
  intro d
  induction d with
  | zero =>
    intro j b hj
    rw [List.drop_of_length_le (by omega), List.any_nil, Bool.or_false]
    cases b with
    | true =>
      rw [Bool.true_and]
      refine Ev.step (f := fun k => merkhetref01_Name.l0 k (txt m) (txt signs) ((i + 1 : Nat) : Int)) (fun k => ?_) hr
      rw [merkhetref01_Name.l1, txt_size, if_neg (by omega), if_pos rfl, e]
    | false =>
      refine Ev.step (f := fun _ => some false) (fun k => ?_) (Ev.now _)
      rw [merkhetref01_Name.l1, txt_size, if_neg (by omega), if_neg (by decide)]
  | succ d ih =>
    intro j b hj
    have hjl : j < signs.length := by omega
    have e2 : wrap64 ((j : Int) + 1) = ((j + 1 : Nat) : Int) := w64_ _ (by omega) (by omega)
    rw [drop_any hjl]
    by_cases hc : (((signs.getD j 0 : Nat) : Int)) = ((m.getD i 0 : Nat) : Int)
    · rw [decide_eq_true hc, Bool.true_or, Bool.or_true]
      have := ih (j + 1) true (by omega)
      rw [Bool.true_or] at this
      refine Ev.step (f := fun k => merkhetref01_Name.l1 k (txt m) (txt signs) (i : Int) true ((j + 1 : Nat) : Int)) (fun k => ?_) this
      rw [merkhetref01_Name.l1, txt_size, if_pos (by omega), if_pos (by omega), if_pos (by omega), txt_size, if_pos (by omega), bt_txt signs signs_isB j hjl, bt_txt m hb i hi, if_pos hc, e2]
    · rw [decide_eq_false hc, Bool.false_or]
      refine Ev.step (f := fun k => merkhetref01_Name.l1 k (txt m) (txt signs) (i : Int) b ((j + 1 : Nat) : Int)) (fun k => ?_) (ih (j + 1) b (by omega))
      rw [merkhetref01_Name.l1, txt_size, if_pos (by omega), if_pos (by omega), if_pos (by omega), txt_size, if_pos (by omega), bt_txt signs signs_isB j hjl, bt_txt m hb i hi, if_neg hc, e2]
theorem ref_Name_l0 (m : List Nat) (hb : isB m) (hl : m.length < 4611686018427387904) : ∀ (d i : Nat), i + d = m.length → Ev (fun k => merkhetref01_Name.l0 k (txt m) (txt signs) (i : Int)) ((m.drop i).all fun c => letterB (c : Int)) := by
  intro d
  induction d with
  | zero =>
    intro i hi
    rw [List.drop_of_length_le (by omega)]
    exact Ev.step (f := fun _ => some true) (fun k => by rw [merkhetref01_Name.l0, txt_size, if_neg (by omega)]) (Ev.now _)
  | succ d ih =>
    intro i hi
    have hil : i < m.length := by omega
    have e : wrap64 ((i : Int) + 1) = ((i + 1 : Nat) : Int) := w64_ _ (by omega) (by omega)
    have h1 := ref_Name_l1 m hb i hil _ e (ih (i + 1) (by omega)) 39 0 false rfl
    rw [List.drop_zero, Bool.false_or, letter_signs _ (getD_lt hb i)] at h1
    rw [drop_all hil]
    refine Ev.step (f := fun k => merkhetref01_Name.l1 k (txt m) (txt signs) (i : Int) false ((0 : Nat) : Int)) (fun k => ?_) h1
    rw [merkhetref01_Name.l0, txt_size, if_pos (by omega)]; rfl
theorem ref_Name_ev (m : List Nat) (hb : isB m) (hl : m.length < 4611686018427387904) : Ev (fun k => merkhetref01_Name.f k (txt m)) (nameB m) := by
  have key : ∀ b : Bool, Ev (fun k => merkhetref01_Name.j0 k (txt m) b) (!b && m.all fun c => letterB (c : Int)) := by
    intro b
    cases b with
    | true => exact Ev.step (f := fun _ => some false) (fun k => by rw [merkhetref01_Name.j0, if_pos rfl]) (Ev.now _)
    | false =>
      have := ref_Name_l0 m hb hl m.length 0 (by omega)
      rw [List.drop_zero] at this
      exact Ev.step (f := fun k => merkhetref01_Name.l0 k (txt m) (txt signs) ((0 : Nat) : Int)) (fun k => by rw [merkhetref01_Name.j0, if_neg (by decide), signs_txt]; rfl) this
  unfold nameB
  by_cases h1 : m = []
  · subst h1
    refine ev_eq (Ev.congr (f := fun k => merkhetref01_Name.j0 k (txt []) true) (fun k => by rw [merkhetref01_Name.f, txt_toList, if_pos (show List.map UInt8.ofNat [] = [] from rfl)]) (key true)) ?_
    simp
  · have h0 : 1 ≤ m.length := by cases m with
      | nil => exact absurd rfl h1
      | cons _ _ => simp
    refine ev_eq (Ev.congr (f := fun k => merkhetref01_Name.j0 k (txt m) (decide ((m.length : Int) > 16))) (fun k => by rw [merkhetref01_Name.f, txt_toList, if_neg (by simpa using h1), txt_size]) (key _)) ?_
    rw [decide_eq_true h0, Bool.true_and]
    congr 1
    by_cases h2 : (m.length : Int) > 16
    · rw [decide_eq_true h2, decide_eq_false (by omega)]; rfl
    · rw [decide_eq_false h2, decide_eq_true (by omega)]; rfl
theorem span_May_ev (a b c d : Int) (h n : List Nat) (s t : Int) (hh : isB h) (hhl : h.length < 4611686018427387904) (hn : isB n) (hnl : n.length < 4611686018427387904) : Ev (fun k => span_May.f k a b c d (txt h) (txt n) s t) (mayB a b c d h n s t) := by
  have k1 : ∀ x : Bool, Ev (fun k => span_May.j1 k x a b c d (txt h) (txt n) s t) (!x && (nameB h && nameB n)) := by
    intro x
    cases x with
    | true => exact Ev.step (f := fun _ => some false) (fun k => by rw [span_May.j1, if_pos rfl]) (Ev.now _)
    | false =>
      refine Ev.step (f := fun k => (span_Name.f k (txt h)).bind fun t105 => (if t105 = true then ((span_Name.f k (txt n)).bind fun t106 => (some t106)) else (some false))) (fun k => by rw [span_May.j1, if_neg (by decide)]) ?_
      refine Ev.bind (span_Name_ev h hh hhl) ?_
      cases hb : nameB h with
      | true => exact Ev.congr (fun k => if_pos rfl) (Ev.bind (span_Name_ev n hn hnl) (Ev.now _))
      | false => exact Ev.congr (fun k => if_neg (by decide)) (Ev.now _)
  have k0 : ∀ x : Bool, Ev (fun k => span_May.j0 k x a b c d (txt h) (txt n) s t) (!x && (decide (0 ≤ s) && decide (s < 1125899906842624) && decide (0 ≤ t) && decide (t ≤ 1125899906842624) && (nameB h && nameB n))) := by
    intro x
    cases x with
    | true => exact Ev.step (f := fun _ => some false) (fun k => by rw [span_May.j0, if_pos rfl]) (Ev.now _)
    | false =>
      by_cases c1 : s < 0
      · refine ev_eq (Ev.step (f := fun k => span_May.j1 k true a b c d (txt h) (txt n) s t) (fun k => by rw [span_May.j0, if_neg (by decide), if_pos c1, decide_eq_true c1]) (k1 true)) ?_
        rw [decide_eq_false (by omega)]; rfl
      by_cases c2 : s ≥ 1125899906842624
      · refine ev_eq (Ev.step (f := fun k => span_May.j1 k true a b c d (txt h) (txt n) s t) (fun k => by rw [span_May.j0, if_neg (by decide), if_neg c1, if_pos c2, decide_eq_true c2]) (k1 true)) ?_
        rw [decide_eq_false (show ¬ s < 1125899906842624 by omega)]; simp
      by_cases c3 : t < 0
      · refine ev_eq (Ev.step (f := fun k => span_May.j1 k true a b c d (txt h) (txt n) s t) (fun k => by rw [span_May.j0, if_neg (by decide), if_neg c1, if_neg c2, if_pos c3, decide_eq_true c3]) (k1 true)) ?_
        rw [decide_eq_false (show ¬ 0 ≤ t by omega)]; simp
      · refine ev_eq (Ev.step (f := fun k => span_May.j1 k (decide (t > 1125899906842624)) a b c d (txt h) (txt n) s t) (fun k => by rw [span_May.j0, if_neg (by decide), if_neg c1, if_neg c2, if_neg c3]) (k1 _)) ?_
        rw [decide_eq_true (show 0 ≤ s by omega), decide_eq_true (show s < 1125899906842624 by omega), decide_eq_true (show 0 ≤ t by omega)]
        by_cases c4 : t > 1125899906842624
        · rw [decide_eq_true c4, decide_eq_false (by omega)]; simp
        · rw [decide_eq_false c4, decide_eq_true (by omega)]; simp
  unfold mayB
  by_cases c1 : a = 0
  · refine ev_eq (Ev.congr (f := fun k => span_May.j0 k true a b c d (txt h) (txt n) s t) (fun k => by rw [span_May.f, if_pos c1, beq_iff_eq.2 c1]) (k0 true)) ?_
    simp [c1]
  by_cases c2 : b = 0
  · refine ev_eq (Ev.congr (f := fun k => span_May.j0 k true a b c d (txt h) (txt n) s t) (fun k => by rw [span_May.f, if_neg c1, if_pos c2, beq_iff_eq.2 c2]) (k0 true)) ?_
    simp [c2]
  by_cases c3 : c = b
  · refine ev_eq (Ev.congr (f := fun k => span_May.j0 k true a b c d (txt h) (txt n) s t) (fun k => by rw [span_May.f, if_neg c1, if_neg c2, if_pos c3, beq_iff_eq.2 c3]) (k0 true)) ?_
    simp [c3]
  · refine ev_eq (Ev.congr (f := fun k => span_May.j0 k (decide (d > 2)) a b c d (txt h) (txt n) s t) (fun k => by rw [span_May.f, if_neg c1, if_neg c2, if_neg c3]) (k0 _)) ?_
    by_cases c4 : d > 2
    · rw [decide_eq_true c4, decide_eq_false (show ¬ d ≤ 2 by omega)]; simp
    · rw [decide_eq_false c4, decide_eq_true (show d ≤ 2 by omega)]; simp [c1, c2, c3, Bool.and_assoc]
theorem ref_May_ev (a b c d : Int) (h n : List Nat) (s t : Int) (hd : 0 ≤ d) (hh : isB h) (hhl : h.length < 4611686018427387904) (hn : isB n) (hnl : n.length < 4611686018427387904) : Ev (fun k => merkhetref01_May.f k a b c d (txt h) (txt n) s t) (mayB a b c d h n s t) := by
  have k2 : ∀ x : Bool, Ev (fun k => merkhetref01_May.j2 k x a b c d (txt h) (txt n) s t) (!x && (nameB h && nameB n)) := by
    intro x
    cases x with
    | true => exact Ev.step (f := fun _ => some false) (fun k => by rw [merkhetref01_May.j2, if_pos rfl]) (Ev.now _)
    | false =>
      refine Ev.step (f := fun k => (merkhetref01_Name.f k (txt h)).bind fun t105 => (if t105 = true then ((merkhetref01_Name.f k (txt n)).bind fun t106 => (some t106)) else (some false))) (fun k => by rw [merkhetref01_May.j2, if_neg (by decide)]) ?_
      refine Ev.bind (ref_Name_ev h hh hhl) ?_
      cases hb : nameB h with
      | true => exact Ev.congr (fun k => if_pos rfl) (Ev.bind (ref_Name_ev n hn hnl) (Ev.now _))
      | false => exact Ev.congr (fun k => if_neg (by decide)) (Ev.now _)
  have k1 : ∀ x : Bool, Ev (fun k => merkhetref01_May.j1 k x a b c d (txt h) (txt n) s t) (!x && (decide (0 ≤ s) && decide (s < 1125899906842624) && decide (0 ≤ t) && decide (t ≤ 1125899906842624) && (nameB h && nameB n))) := by
    intro x
    cases x with
    | true => exact Ev.step (f := fun _ => some false) (fun k => by rw [merkhetref01_May.j1, if_pos rfl]) (Ev.now _)
    | false =>
      by_cases c1 : s < 0
      · refine ev_eq (Ev.step (f := fun k => merkhetref01_May.j2 k true a b c d (txt h) (txt n) s t) (fun k => by rw [merkhetref01_May.j1, if_neg (by decide), if_pos c1]) (k2 true)) ?_
        rw [decide_eq_false (by omega)]; rfl
      by_cases c2 : s > 1125899906842623
      · refine ev_eq (Ev.step (f := fun k => merkhetref01_May.j2 k true a b c d (txt h) (txt n) s t) (fun k => by rw [merkhetref01_May.j1, if_neg (by decide), if_neg c1, if_pos c2]) (k2 true)) ?_
        rw [decide_eq_false (show ¬ s < 1125899906842624 by omega)]; simp
      by_cases c3 : t < 0
      · refine ev_eq (Ev.step (f := fun k => merkhetref01_May.j2 k true a b c d (txt h) (txt n) s t) (fun k => by rw [merkhetref01_May.j1, if_neg (by decide), if_neg c1, if_neg c2, if_pos c3]) (k2 true)) ?_
        rw [decide_eq_false (show ¬ 0 ≤ t by omega)]; simp
      · refine ev_eq (Ev.step (f := fun k => merkhetref01_May.j2 k (decide (t > 1125899906842624)) a b c d (txt h) (txt n) s t) (fun k => by rw [merkhetref01_May.j1, if_neg (by decide), if_neg c1, if_neg c2, if_neg c3]) (k2 _)) ?_
        rw [decide_eq_true (show 0 ≤ s by omega), decide_eq_true (show s < 1125899906842624 by omega), decide_eq_true (show 0 ≤ t by omega)]
        by_cases c4 : t > 1125899906842624
        · rw [decide_eq_true c4, decide_eq_false (by omega)]; simp
        · rw [decide_eq_false c4, decide_eq_true (by omega)]; simp
  have k0 : ∀ x : Bool, Ev (fun k => merkhetref01_May.j0 k x a b c d (txt h) (txt n) s t) (!x && (decide (d ≤ 2) && (decide (0 ≤ s) && decide (s < 1125899906842624) && decide (0 ≤ t) && decide (t ≤ 1125899906842624) && (nameB h && nameB n)))) := by
    intro x
    cases x with
    | true => exact Ev.step (f := fun _ => some false) (fun k => by rw [merkhetref01_May.j0, if_pos rfl]) (Ev.now _)
    | false =>
      by_cases c1 : d = 0
      · refine ev_eq (Ev.step (f := fun k => merkhetref01_May.j1 k false a b c d (txt h) (txt n) s t) (fun k => by rw [merkhetref01_May.j0, if_neg (by decide), if_pos c1]) (k1 false)) ?_
        rw [decide_eq_true (show d ≤ 2 by omega)]; rfl
      by_cases c2 : d = 1
      · refine ev_eq (Ev.step (f := fun k => merkhetref01_May.j1 k false a b c d (txt h) (txt n) s t) (fun k => by rw [merkhetref01_May.j0, if_neg (by decide), if_neg c1, if_pos c2]) (k1 false)) ?_
        rw [decide_eq_true (show d ≤ 2 by omega)]; rfl
      · refine ev_eq (Ev.step (f := fun k => merkhetref01_May.j1 k (d != 2) a b c d (txt h) (txt n) s t) (fun k => by rw [merkhetref01_May.j0, if_neg (by decide), if_neg c1, if_neg c2]) (k1 _)) ?_
        by_cases c3 : d = 2
        · rw [bne_eq_false_iff_eq.2 c3, decide_eq_true (show d ≤ 2 by omega)]; rfl
        · rw [bne_iff_ne.2 c3, decide_eq_false (show ¬ d ≤ 2 by omega)]; rfl
  unfold mayB
  by_cases c1 : a = 0
  · refine ev_eq (Ev.congr (f := fun k => merkhetref01_May.j0 k true a b c d (txt h) (txt n) s t) (fun k => by rw [merkhetref01_May.f, if_pos c1]) (k0 true)) ?_
    simp [c1]
  by_cases c2 : b = 0
  · refine ev_eq (Ev.congr (f := fun k => merkhetref01_May.j0 k true a b c d (txt h) (txt n) s t) (fun k => by rw [merkhetref01_May.f, if_neg c1, if_pos c2]) (k0 true)) ?_
    simp [c2]
  · refine ev_eq (Ev.congr (f := fun k => merkhetref01_May.j0 k (c == b) a b c d (txt h) (txt n) s t) (fun k => by rw [merkhetref01_May.f, if_neg c1, if_neg c2]) (k0 _)) ?_
    by_cases c3 : c = b
    · rw [beq_iff_eq.2 c3]; simp [c3]
    · rw [beq_eq_false_iff_ne.2 c3]; simp [c1, c2, c3, Bool.and_assoc]
end
section
open Go.RowKit Go.Proofs.YtdpodjgggicaoaaW.PrintWords Go.Proofs.YtdpodjgggicaoaaW.PrintLast Go.Proofs.YtdpodjgggicaoaaW.PrintMore Go.Proofs.Ytdpodjgggicaoaa.H
def mkS (p : PS) : S77 := ⟨(p.a : Int), (p.b : Int), (p.c : Int), (p.d : Int), txt p.h, txt p.n, p.s, p.t⟩
end
section
open Go.RowKit Go.Proofs.YtdpodjgggicaoaaW.PrintWords Go.Proofs.YtdpodjgggicaoaaW.PrintLast Go.Proofs.YtdpodjgggicaoaaW.PrintMore Go.Proofs.Ytdpodjgggicaoaa.H
theorem pack_Get_ev (b : List Nat) (at_ size : Int) (hb : isB b) (hl : b.length < 4611686018427387904) : Ev (fun k => pack_Get.f k (rowB b) at_ size) (getR b at_ (cnt size)) := ⟨9, fun k hk => pack_Get_nat k hk b at_ size hb hl⟩
theorem pack_GetText_ev (b : List Nat) (at_ : Int) (hb : isB b) (hl : b.length < 4611686018427387904) : Ev (fun k => pack_GetText.f k (rowB b) at_) (getTR b at_) := ⟨1, fun k hk => pack_GetText_nat k hk b at_ hb hl⟩
theorem getR_in (b : List Nat) (p k : Nat) (h : p + k ≤ b.length) : getR b (p : Int) k = (((num ((b.drop p).take k) : Nat) : Int), true) := by
  unfold getR getN
  rw [if_pos (by omega), Int.toNat_natCast]
def resP (r : Except Int PS) : Int × Int × Int × Int × ByteArray × ByteArray × Int × Int × Int := match r with
  | .ok p => ((p.a : Int), (p.b : Int), (p.c : Int), (p.d : Int), txt p.h, txt p.n, p.s, p.t, 0)
  | .error e => (0, 0, 0, 0, ⟨#[]⟩, ⟨#[]⟩, 0, 0, e)
def resG (r : Except Int (List PS)) : List S77 × Int := match r with
  | .ok l => (l.map mkS, 0)
  | .error e => ([], e)
theorem wire_get_ev (b : List Nat) (hb : isB b) (hl : b.length = 75) : Ev (fun k => wire_get.f k (rowB b)) (resP (getP b)) := by
  have c8 : cnt 8 = 8 := rfl
  have c1 : cnt 1 = 1 := rfl
  have g : ∀ (p : Nat) (size : Int) (k : Nat), cnt size = k → p + k ≤ 75 → Ev (fun q => pack_Get.f q (rowB b) (p : Int) size) (((num ((b.drop p).take k) : Nat) : Int), true) := fun p size k hk hp => by
    have := pack_Get_ev b (p : Int) size hb (by omega)
    rwa [hk, getR_in b p k (by omega)] at this
  unfold wire_get.f
  have e0 := g 0 8 8 c8 (by omega)
  rw [List.drop_zero] at e0
  refine Ev.bind e0 (Ev.bind (g 8 8 8 c8 (by omega)) (Ev.bind (g 16 8 8 c8 (by omega)) (Ev.bind (g 24 1 1 c1 (by omega)) (Ev.bind (g 25 8 8 c8 (by omega)) (Ev.bind (g 33 8 8 c8 (by omega)) (Ev.bind (pack_GetText_ev b 41 hb (by omega)) (Ev.bind (pack_GetText_ev b 58 hb (by omega)) ?_)))))))
  unfold getTR getP
  cases h1 : getT b 41 with
  | none => exact Ev.congr (fun k => if_neg (by decide)) (Ev.now _)
  | some hh =>
    cases h2 : getT b 58 with
    | none => exact Ev.congr (f := fun _ => some (resP (Except.error 3))) (fun k => by rw [if_pos rfl, if_neg (by decide)]; rfl) (Ev.now _)
    | some nn =>
      obtain ⟨x1, x2⟩ := getT_isB hb h1
      obtain ⟨y1, y2⟩ := getT_isB hb h2
      have hd : ((num ((b.drop 24).take 1) : Nat) : Int) % 256 = ((num ((b.drop 24).take 1) : Nat) : Int) := by have := num1_lt hb 24; omega
      have hm := span_May_ev ((num (b.take 8) : Nat) : Int) ((num ((b.drop 8).take 8) : Nat) : Int) ((num ((b.drop 16).take 8) : Nat) : Int) ((num ((b.drop 24).take 1) : Nat) : Int) hh nn (wrap64 ((num ((b.drop 25).take 8) : Nat) : Int)) (wrap64 ((num ((b.drop 33).take 8) : Nat) : Int)) x1 (by omega) y1 (by omega)
      refine Ev.congr (f := fun k => (span_May.f k ((num (b.take 8) : Nat) : Int) ((num ((b.drop 8).take 8) : Nat) : Int) ((num ((b.drop 16).take 8) : Nat) : Int) ((num ((b.drop 24).take 1) : Nat) : Int) (txt hh) (txt nn) (wrap64 ((num ((b.drop 25).take 8) : Nat) : Int)) (wrap64 ((num ((b.drop 33).take 8) : Nat) : Int))).bind fun m => if m = true then some (((num (b.take 8) : Nat) : Int), ((num ((b.drop 8).take 8) : Nat) : Int), ((num ((b.drop 16).take 8) : Nat) : Int), ((num ((b.drop 24).take 1) : Nat) : Int), txt hh, txt nn, wrap64 ((num ((b.drop 25).take 8) : Nat) : Int), wrap64 ((num ((b.drop 33).take 8) : Nat) : Int), (0 : Int)) else some ((0 : Int), (0 : Int), (0 : Int), (0 : Int), (⟨#[]⟩ : ByteArray), (⟨#[]⟩ : ByteArray), (0 : Int), (0 : Int), (4 : Int))) (fun k => by
        rw [if_pos rfl, if_pos rfl]
        simp only [hd]) ?_
      refine Ev.bind hm ?_
      cases hmay : mayP (rawP b hh nn) with
      | true =>
        have : mayB ((num (b.take 8) : Nat) : Int) ((num ((b.drop 8).take 8) : Nat) : Int) ((num ((b.drop 16).take 8) : Nat) : Int) ((num ((b.drop 24).take 1) : Nat) : Int) hh nn (wrap64 ((num ((b.drop 25).take 8) : Nat) : Int)) (wrap64 ((num ((b.drop 33).take 8) : Nat) : Int)) = true := hmay
        refine Ev.congr (fun k => if_pos this) (ev_eq (Ev.now _) ?_)
        simp only [hmay, if_true]
        rfl
      | false =>
        have : mayB ((num (b.take 8) : Nat) : Int) ((num ((b.drop 8).take 8) : Nat) : Int) ((num ((b.drop 16).take 8) : Nat) : Int) ((num ((b.drop 24).take 1) : Nat) : Int) hh nn (wrap64 ((num ((b.drop 25).take 8) : Nat) : Int)) (wrap64 ((num ((b.drop 33).take 8) : Nat) : Int)) = false := hmay
        refine Ev.congr (fun k => if_neg (by rw [this]; decide)) (ev_eq (Ev.now _) ?_)
        simp only [hmay]
        rfl
theorem getP_err {b : List Nat} {e : Int} (h : getP b = .error e) : e ≠ 0 := by
  unfold getP at h
  split at h
  · split at h
    · exact absurd h (by simp)
    · rw [← Except.error.inj h]; decide
  · rw [← Except.error.inj h]; decide
def joinG (acc : List PS) : Except Int (List PS) → Except Int (List PS)
  | .ok l => .ok (acc ++ l)
  | .error e => .error e
theorem wire_Get_l0 : ∀ (c : Nat) (r : List Nat) (acc : List PS), isB r → r.length = 75 * c → acc.length + c ≤ 1000 → Ev (fun k => wire_Get.l0 k (rowB r) (acc.map mkS)) (resG (joinG acc (getsP c r))) := by
  intro c
  induction c with
  | zero =>
    intro r acc hr hl ha
    refine Ev.step (f := fun _ => some (acc.map mkS, 0)) (fun k => by rw [wire_Get.l0, rowB_length, if_neg (by omega)]) (ev_eq (Ev.now _) ?_)
    simp [getsP, joinG, resG]
  | succ c ih =>
    intro r acc hr hl ha
    have hg := wire_get_ev (r.take 75) (isB_take hr 75) (by rw [List.length_take]; omega)
    refine Ev.step (f := fun k => (wire_get.f k (rowB (r.take 75))).bind fun bt260 => (if bt260.2.2.2.2.2.2.2.2 = 0 then (if (acc.map mkS).length < 1759218604441 then (wire_Get.l0 k (rowB (r.drop 75)) (acc.map mkS ++ [(⟨bt260.1, bt260.2.1, bt260.2.2.1, bt260.2.2.2.1, bt260.2.2.2.2.1, bt260.2.2.2.2.2.1, bt260.2.2.2.2.2.2.1, bt260.2.2.2.2.2.2.2.1⟩ : S77)])) else (none)) else (some (([] : List S77), bt260.2.2.2.2.2.2.2.2)))) (fun k => by rw [wire_Get.l0, rowB_length, if_pos (by omega), if_pos (by omega), rowB_take, rowB_drop]) ?_
    refine Ev.bind hg ?_
    rw [getsP]
    cases hp : getP (r.take 75) with
    | error e =>
      have he := getP_err hp
      exact Ev.congr (f := fun _ => some ([], e)) (fun k => if_neg he) (Ev.now _)
    | ok p =>
      have hi := ih (r.drop 75) (acc ++ [p]) (isB_drop hr 75) (by rw [List.length_drop]; omega) (by rw [List.length_append, List.length_singleton]; omega)
      refine Ev.congr (f := fun k => wire_Get.l0 k (rowB (r.drop 75)) ((acc ++ [p]).map mkS)) (fun k => ?_) (ev_eq hi ?_)
      · rw [List.map_append]
        exact (if_pos rfl).trans (if_pos (by rw [List.length_map]; omega))
      · simp only []
        cases getsP c (r.drop 75) with
        | error e => rfl
        | ok l => simp [joinG]
theorem wire_Get_ev (b : List Nat) (hb : isB b) (hl : b.length < 1000000000) : Ev (fun k => wire_Get.f k (rowB b)) (resG (wireGet b)) := by
  have j1 : ∀ x : Int, Ev (fun k => wire_Get.j0 k x (rowB (b.drop 6)) true) (resG (.error 3)) := fun x => Ev.step (f := fun _ => some ([], 3)) (fun k => by rw [wire_Get.j0, if_pos rfl]) (Ev.now _)
  unfold wireGet
  by_cases c0 : b.length < 6
  · rw [if_pos c0]
    exact Ev.congr (f := fun _ => some ([], 2)) (fun k => by rw [wire_Get.f, rowB_length, if_pos (by omega)]) (Ev.now _)
  rw [if_neg c0]
  have hg := pack_Get_ev b ((4 : Nat) : Int) 2 hb (by omega)
  rw [show cnt 2 = 2 from rfl, getR_in b 4 2 (by omega)] at hg
  have hn : num ((b.drop 4).take 2) < 65536 := by
    refine Nat.lt_of_lt_of_le (num_lt _ (isB_take (isB_drop hb 4) 2)) ?_
    exact Nat.le_trans (Nat.pow_le_pow_right (by decide) (List.length_take_le 2 _)) (by decide)
  generalize num ((b.drop 4).take 2) = n at hg hn ⊢
  have hs : ((strOfNums (rowB (b.take 4))).toList = ([83, 80, 65, 78] : List UInt8)) ↔ b.take 4 = spanHead := by
    rw [strOf_rowB, show ([83, 80, 65, 78] : List UInt8) = (txt spanHead).toList by rw [txt_toList]; rfl]
    exact txt_eq_iff (isB_take hb 4) (fun x hx => by simp [spanHead] at hx; omega)
  refine Ev.congr (f := fun k => (pack_Get.f k (rowB b) ((4 : Nat) : Int) 2).bind fun bt243 => (if b.take 4 = spanHead then (if bt243.1 = 0 then (wire_Get.j0 k bt243.1 (rowB (b.drop 6)) (bt243.1 == 0)) else (wire_Get.j0 k bt243.1 (rowB (b.drop 6)) (decide (bt243.1 > 32)))) else (wire_Get.j0 k bt243.1 (rowB (b.drop 6)) true))) (fun k => ?_) ?_
  · rw [wire_Get.f, rowB_length, if_neg (by omega)]
    refine congrArg (Option.bind (pack_Get.f k (rowB b) 4 2)) (funext fun bt => ?_)
    rw [if_pos (by omega), Option.bind_some, if_pos (by omega), Option.bind_some, rowB_drop, rowB_take]
    by_cases c : b.take 4 = spanHead
    · rw [if_pos c, if_pos (hs.2 c)]
    · rw [if_neg c, if_neg (fun h => c (hs.1 h))]
      rw [show ((strOfNums (rowB (b.take 4))).toList != ([83, 80, 65, 78] : List UInt8)) = true from bne_iff_ne.2 (fun h => c (hs.1 h))]
  refine Ev.bind hg ?_
  by_cases c1 : b.take 4 = spanHead
  case neg =>
    rw [if_pos c1]
    exact Ev.congr (fun k => if_neg c1) (j1 _)
  rw [if_neg (fun h => h c1)]
  by_cases c2 : n = 0
  · rw [if_pos c2]
    exact Ev.congr (fun k => by rw [if_pos c1, if_pos (by show ((n : Nat) : Int) = 0; omega), show (((n : Nat) : Int) == 0) = true by rw [beq_iff_eq]; omega]) (j1 _)
  rw [if_neg c2]
  by_cases c3 : 32 < n
  · rw [if_pos c3]
    exact Ev.congr (fun k => by rw [if_pos c1, if_neg (by show ¬ ((n : Nat) : Int) = 0; omega), decide_eq_true (by show ((n : Nat) : Int) > 32; omega)]) (j1 _)
  rw [if_neg c3]
  refine Ev.congr (f := fun k => wire_Get.j0 k (n : Int) (rowB (b.drop 6)) false) (fun k => by rw [if_pos c1, if_neg (by show ¬ ((n : Nat) : Int) = 0; omega), decide_eq_false (by show ¬ ((n : Nat) : Int) > 32; omega)]) ?_
  have hw1 : wrap64 (n : Int) = (n : Int) := w64_ _ (by omega) (by omega)
  have hw : wrap64 (wrap64 (n : Int) * 75) = ((75 * n : Nat) : Int) := by rw [hw1, w64_ _ (by omega) (by omega)]; omega
  by_cases c4 : b.length < 6 + 75 * n
  · rw [if_pos c4]
    exact Ev.step (f := fun _ => some ([], 2)) (fun k => by rw [wire_Get.j0, if_neg (by decide), rowB_length, hw, List.length_drop, if_pos (by omega)]) (Ev.now _)
  rw [if_neg c4]
  by_cases c5 : 6 + 75 * n < b.length
  · rw [if_pos c5]
    exact Ev.step (f := fun _ => some ([], 3)) (fun k => by rw [wire_Get.j0, if_neg (by decide), rowB_length, hw, List.length_drop, if_neg (by omega), if_pos (by omega)]) (Ev.now _)
  rw [if_neg c5]
  have hl0 := wire_Get_l0 n (b.drop 6) [] (isB_drop hb 6) (by rw [List.length_drop]; omega) (by simp; omega)
  refine Ev.step (f := fun k => wire_Get.l0 k (rowB (b.drop 6)) (([] : List PS).map mkS)) (fun k => by rw [wire_Get.j0, if_neg (by decide), rowB_length, hw, List.length_drop, if_neg (by omega), if_neg (by omega)]; rfl) (ev_eq hl0 ?_)
  cases getsP n (b.drop 6) with
  | error e => rfl
  | ok l => rfl
end
section
open Go.RowKit Go.Proofs.YtdpodjgggicaoaaW.PrintWords Go.Proofs.YtdpodjgggicaoaaW.PrintLast Go.Proofs.YtdpodjgggicaoaaW.PrintMore Go.Proofs.Ytdpodjgggicaoaa.H
theorem ref2_Get_ev (b : List Nat) (at_ size : Int) (hb : isB b) (hl : b.length < 4611686018427387904) : Ev (fun k => merkhetref02_Get.f k (txt b) at_ size) (getR b at_ (cnt size)) := ⟨10, fun k hk => ref_Get_nat k hk b at_ size hb hl⟩
theorem ref2_GetText_ev (b : List Nat) (at_ : Int) (hb : isB b) (hl : b.length < 4611686018427387904) : Ev (fun k => merkhetref02_GetText.f k (txt b) at_) (getTR b at_) := ⟨20, fun k hk => ref_GetText_nat k hk b at_ hb hl⟩
theorem cut75 (b : List Nat) (p q k : Nat) (hq : q + k ≤ 75) : (((b.drop p).take 75).drop q).take k = (b.drop (p + q)).take k := by
  rw [List.drop_take, List.take_take, Nat.min_eq_left (by omega), List.drop_drop]
theorem getT_cut (b : List Nat) (p q : Nat) (hp : p + 75 ≤ b.length) (hq : q + 17 ≤ 75) : getT b ((p + q : Nat) : Int) = getT ((b.drop p).take 75) (q : Int) := by
  have e : ((b.drop p).take 75).getD q 0 = b.getD (p + q) 0 := by
    simp [List.getD_eq_getElem?_getD, List.getElem?_take, List.getElem?_drop, show q < 75 by omega]
  have hl : ((b.drop p).take 75).length = 75 := by rw [List.length_take, List.length_drop]; omega
  unfold getT
  rw [hl, if_pos (show 0 ≤ ((p + q : Nat) : Int) ∧ ((p + q : Nat) : Int) + 17 ≤ (b.length : Int) by omega), if_pos (show 0 ≤ (q : Int) ∧ (q : Int) + 17 ≤ ((75 : Nat) : Int) by omega), Int.toNat_natCast, Int.toNat_natCast, e, cut75 b p q 17 hq]
theorem getR_cut (b : List Nat) (p q k : Nat) (hp : p + 75 ≤ b.length) (hq : q + k ≤ 75) : getR b ((p + q : Nat) : Int) k = (((num ((((b.drop p).take 75).drop q).take k) : Nat) : Int), true) := by
  rw [getR_in b (p + q) k (by omega), cut75 b p q k hq]
def SZ : List Int := [8, 8, 8, 1, 8, 8]
theorem mod_256 (n : Nat) (h : n < 256) : (n : Int) % 256 = (n : Int) := by omega
theorem len_ok {n : Nat} (h : n ≤ 16) : n < 4611686018427387904 := by omega
theorem w_step (p q k : Nat) (size : Int) (hk : size = (k : Int)) (h : p + q + k < 2000000000) : wrap64 (((p + q : Nat) : Int) + size) = ((p + (q + k) : Nat) : Int) := by
  subst hk
  rw [w64_ _ (by omega) (by omega)]; omega
theorem w_one (i : Nat) (h : i < 6) : wrap64 ((i : Int) + 1) = ((i + 1 : Nat) : Int) := w64_ _ (by omega) (by omega)
theorem sz_lt (i : Nat) (h : i < 6) : (i : Int) < (SZ.length : Int) := by show (i : Int) < ((6 : Nat) : Int); omega
theorem l1_one (x0 : ByteArray) (x6 : List S77) (x7 : Int) (acc : List Int) (P P1 : Int) (i : Nat) (size v : Int) (hg : Ev (fun n => merkhetref02_Get.f n x0 P size) (v, true)) (hs : rd SZ (i : Int) = size) (hi : i < 6) (e1 : wrap64 (P + size) = P1) (ha : acc.length < 17592186044416) (r : List S77 × Int)
    (h : Ev (fun n => merkhetref04_Get.l1 n x0 x6 x7 (acc ++ [v]) SZ P1 ((i + 1 : Nat) : Int)) r) : Ev (fun n => merkhetref04_Get.l1 n x0 x6 x7 acc SZ P (i : Int)) r := by
  refine Ev.step (f := fun n => (merkhetref02_Get.f n x0 P size).bind fun bt307 => (if acc.length < 17592186044416 then (merkhetref04_Get.l1 n x0 x6 x7 (acc ++ [bt307.1]) SZ P1 ((i + 1 : Nat) : Int)) else (none))) (fun n => by rw [merkhetref04_Get.l1, if_pos (sz_lt i hi), if_pos (Int.natCast_nonneg i), hs, e1, w_one i hi]) ?_
  exact Ev.bind hg (Ev.congr (fun n => if_pos ha) h)
theorem l1_step (b : List Nat) (hb : isB b) (hl : b.length < 1000000000) (x6 : List S77) (x7 : Int) (acc : List Int) (p q i k : Nat) (size : Int) (hs : rd SZ (i : Int) = size) (hk : cnt size = k) (hk2 : size = (k : Int)) (hi : i < 6) (hp : p + 75 ≤ b.length) (hq : q + k ≤ 75) (ha : acc.length ≤ 6) (r : List S77 × Int)
    (h : Ev (fun n => merkhetref04_Get.l1 n (txt b) x6 x7 (acc ++ [((num ((((b.drop p).take 75).drop q).take k) : Nat) : Int)]) SZ ((p + (q + k) : Nat) : Int) ((i + 1 : Nat) : Int)) r) :
    Ev (fun n => merkhetref04_Get.l1 n (txt b) x6 x7 acc SZ ((p + q : Nat) : Int) (i : Int)) r := by
  have hg := ref2_Get_ev b ((p + q : Nat) : Int) size hb (by omega)
  rw [hk, getR_cut b p q k hp hq] at hg
  exact l1_one (txt b) x6 x7 acc _ _ i size _ hg hs hi (w_step p q k size hk2 (by omega)) (by omega) r h
def endM (n : Nat) (x0 : ByteArray) (x6 : List S77) (x7 : Int) (x8 : List Int) (hh nn : ByteArray) : Option (List S77 × Int) := (if 0 < (x8.length : Int) then (if 1 < (x8.length : Int) then (if 2 < (x8.length : Int) then (if 3 < (x8.length : Int) then (if 4 < (x8.length : Int) then (if 5 < (x8.length : Int) then ((merkhetref01_May.f n (rd x8 0) (rd x8 1) (rd x8 2) ((rd x8 3) % 256) hh nn (wrap64 (rd x8 4)) (wrap64 (rd x8 5))).bind fun t324 => (if t324 = true then (if x6.length < 1759218604441 then (merkhetref04_Get.l0 n x0 (x6 ++ [(⟨rd x8 0, rd x8 1, rd x8 2, (rd x8 3) % 256, hh, nn, wrap64 (rd x8 4), wrap64 (rd x8 5)⟩ : S77)]) (wrap64 (x7 + 75))) else (none)) else (some (([] : List (S77)), 4)))) else (none)) else (none)) else (none)) else (none)) else (none)) else (none))
def endT (n : Nat) (x0 : ByteArray) (x6 : List S77) (x7 : Int) (x8 : List Int) (P P1 : Int) : Option (List S77 × Int) := (merkhetref02_GetText.f n x0 P).bind fun bt313 => (if bt313.2 = true then ((merkhetref02_GetText.f n x0 P1).bind fun bt315 => (if bt315.2 = true then endM n x0 x6 x7 x8 bt313.1 bt315.1 else (some (([] : List (S77)), 3)))) else (some (([] : List (S77)), 3)))
theorem l1_tail (n : Nat) (x0 : ByteArray) (x6 : List S77) (x7 : Int) (x8 : List Int) (P P1 : Int) (e : wrap64 (P + 17) = P1) : merkhetref04_Get.l1 (n + 1) x0 x6 x7 x8 SZ P 6 = endT n x0 x6 x7 x8 P P1 := by
  rw [merkhetref04_Get.l1, if_neg (by decide), e]; rfl
theorem endT_none1 (x0 : ByteArray) (x6 : List S77) (x7 : Int) (x8 : List Int) (P P1 : Int) (s : ByteArray) (h1 : Ev (fun n => merkhetref02_GetText.f n x0 P) (s, false)) : Ev (fun n => endT n x0 x6 x7 x8 P P1) (([] : List (S77)), 3) := by
  unfold endT
  exact Ev.bind h1 (Ev.congr (fun n => if_neg Bool.false_ne_true) (Ev.now _))
theorem endT_none2 (x0 : ByteArray) (x6 : List S77) (x7 : Int) (x8 : List Int) (P P1 : Int) (s t : ByteArray) (h1 : Ev (fun n => merkhetref02_GetText.f n x0 P) (s, true)) (h2 : Ev (fun n => merkhetref02_GetText.f n x0 P1) (t, false)) : Ev (fun n => endT n x0 x6 x7 x8 P P1) (([] : List (S77)), 3) := by
  unfold endT
  exact Ev.bind h1 (Ev.congr (fun n => if_pos rfl) (Ev.bind h2 (Ev.congr (fun n => if_neg Bool.false_ne_true) (Ev.now _))))
theorem endT_some (x0 : ByteArray) (x6 : List S77) (x7 : Int) (x8 : List Int) (P P1 : Int) (s t : ByteArray) (r : List S77 × Int) (h1 : Ev (fun n => merkhetref02_GetText.f n x0 P) (s, true)) (h2 : Ev (fun n => merkhetref02_GetText.f n x0 P1) (t, true)) (h : Ev (fun n => endM n x0 x6 x7 x8 s t) r) : Ev (fun n => endT n x0 x6 x7 x8 P P1) r := by
  unfold endT
  exact Ev.bind h1 (Ev.congr (fun n => if_pos rfl) (Ev.bind h2 (Ev.congr (fun n => if_pos rfl) h)))
theorem endM_six (n : Nat) (x0 : ByteArray) (x6 : List S77) (x7 X7 v0 v1 v2 v3 v4 v5 : Int) (hh nn : ByteArray) (h3 : v3 % 256 = v3) (e : wrap64 (x7 + 75) = X7) : endM n x0 x6 x7 [v0, v1, v2, v3, v4, v5] hh nn = ((merkhetref01_May.f n v0 v1 v2 v3 hh nn (wrap64 v4) (wrap64 v5)).bind fun t324 => (if t324 = true then (if x6.length < 1759218604441 then (merkhetref04_Get.l0 n x0 (x6 ++ [(⟨v0, v1, v2, v3, hh, nn, wrap64 v4, wrap64 v5⟩ : S77)]) X7) else (none)) else (some (([] : List (S77)), 4)))) := by
  unfold endM
  have L : (([v0, v1, v2, v3, v4, v5] : List Int).length : Int) = 6 := rfl
  rw [L, if_pos (show (0 : Int) < 6 by decide), if_pos (show (1 : Int) < 6 by decide), if_pos (show (2 : Int) < 6 by decide), if_pos (show (3 : Int) < 6 by decide), if_pos (show (4 : Int) < 6 by decide), if_pos (show (5 : Int) < 6 by decide), e]
  show (merkhetref01_May.f n v0 v1 v2 (v3 % 256) hh nn (wrap64 v4) (wrap64 v5)).bind (fun t324 => (if t324 = true then (if x6.length < 1759218604441 then (merkhetref04_Get.l0 n x0 (x6 ++ [(⟨v0, v1, v2, v3 % 256, hh, nn, wrap64 v4, wrap64 v5⟩ : S77)]) X7) else (none)) else (some (([] : List (S77)), 4)))) = _
  rw [h3]
theorem l1_end (b : List Nat) (hb : isB b) (hl : b.length < 1000000000) (acc : List PS) (p : Nat) (hp : p + 75 ≤ b.length) (ha : acc.length ≤ 1000) (r : List S77 × Int)
    (h : ∀ q, getP ((b.drop p).take 75) = .ok q → Ev (fun n => merkhetref04_Get.l0 n (txt b) ((acc ++ [q]).map mkS) ((p + 75 : Nat) : Int)) r) (he : ∀ e, getP ((b.drop p).take 75) = .error e → r = ([], e)) :
    Ev (fun n => merkhetref04_Get.l1 n (txt b) (acc.map mkS) (p : Int) [((num ((((b.drop p).take 75).drop 0).take 8) : Nat) : Int), ((num ((((b.drop p).take 75).drop 8).take 8) : Nat) : Int), ((num ((((b.drop p).take 75).drop 16).take 8) : Nat) : Int), ((num ((((b.drop p).take 75).drop 24).take 1) : Nat) : Int), ((num ((((b.drop p).take 75).drop 25).take 8) : Nat) : Int), ((num ((((b.drop p).take 75).drop 33).take 8) : Nat) : Int)] SZ ((p + 41 : Nat) : Int) 6) r := by
  have t1 := ref2_GetText_ev b ((p + 41 : Nat) : Int) hb (by omega)
  have t2 := ref2_GetText_ev b ((p + 58 : Nat) : Int) hb (by omega)
  have hc := isB_take (isB_drop hb p) 75
  refine Ev.step (f := fun n => endT n (txt b) (acc.map mkS) (p : Int) _ ((p + 41 : Nat) : Int) ((p + 58 : Nat) : Int)) (fun n => l1_tail n _ _ _ _ _ _ (w_step p 41 17 17 rfl (by omega))) ?_
  unfold getTR at t1 t2
  rw [getT_cut b p 41 hp (by omega)] at t1
  rw [getT_cut b p 58 hp (by omega)] at t2
  rw [List.drop_zero]
  unfold getP at h he
  generalize hcc : (b.drop p).take 75 = c at *
  cases h1 : getT c ((41 : Nat) : Int) with
  | none =>
    have h1' : getT c 41 = none := h1
    rw [h1] at t1
    obtain rfl := he 3 (by rw [h1'])
    exact endT_none1 _ _ _ _ _ _ _ t1
  | some hh =>
    have h1' : getT c 41 = some hh := h1
    rw [h1] at t1
    cases h2 : getT c ((58 : Nat) : Int) with
    | none =>
      have h2' : getT c 58 = none := h2
      rw [h2] at t2
      obtain rfl := he 3 (by rw [h1', h2'])
      exact endT_none2 _ _ _ _ _ _ _ _ t1 t2
    | some nn =>
      have h2' : getT c 58 = some nn := h2
      rw [h2] at t2
      rw [h1', h2'] at h he
      obtain ⟨x1, x2⟩ := getT_isB hc h1
      obtain ⟨y1, y2⟩ := getT_isB hc h2
      have hn1 := num1_lt hc 24
      have hd : ((num ((c.drop 24).take 1) : Nat) : Int) % 256 = ((num ((c.drop 24).take 1) : Nat) : Int) := mod_256 _ hn1
      have hm := ref_May_ev ((num (c.take 8) : Nat) : Int) ((num ((c.drop 8).take 8) : Nat) : Int) ((num ((c.drop 16).take 8) : Nat) : Int) ((num ((c.drop 24).take 1) : Nat) : Int) hh nn (wrap64 ((num ((c.drop 25).take 8) : Nat) : Int)) (wrap64 ((num ((c.drop 33).take 8) : Nat) : Int)) (Int.natCast_nonneg _) x1 (len_ok x2) y1 (len_ok y2)
      refine endT_some _ _ _ _ _ _ _ _ _ t1 t2 (Ev.congr (fun n => endM_six n _ _ _ _ _ _ _ _ _ _ _ _ hd (w_step p 0 75 75 rfl (by omega))) ?_)
      refine Ev.bind hm ?_
      cases hmay : mayP (rawP c hh nn) with
      | true =>
        have hmm : mayB ((num (c.take 8) : Nat) : Int) ((num ((c.drop 8).take 8) : Nat) : Int) ((num ((c.drop 16).take 8) : Nat) : Int) ((num ((c.drop 24).take 1) : Nat) : Int) hh nn (wrap64 ((num ((c.drop 25).take 8) : Nat) : Int)) (wrap64 ((num ((c.drop 33).take 8) : Nat) : Int)) = true := hmay
        refine Ev.congr (f := fun n => merkhetref04_Get.l0 n (txt b) ((acc ++ [rawP c hh nn]).map mkS) ((p + 75 : Nat) : Int)) (fun n => ?_) (h (rawP c hh nn) (by simp only [hmay, if_true]))
        rw [if_pos hmm, if_pos (by rw [List.length_map]; exact Nat.lt_of_le_of_lt ha (by decide)), List.map_append]
        rfl
      | false =>
        have hmm : mayB ((num (c.take 8) : Nat) : Int) ((num ((c.drop 8).take 8) : Nat) : Int) ((num ((c.drop 16).take 8) : Nat) : Int) ((num ((c.drop 24).take 1) : Nat) : Int) hh nn (wrap64 ((num ((c.drop 25).take 8) : Nat) : Int)) (wrap64 ((num ((c.drop 33).take 8) : Nat) : Int)) = false := hmay
        obtain rfl := he 4 (by simp only [hmay]; rfl)
        exact Ev.congr (fun n => if_neg (by rw [hmm]; decide)) (Ev.now _)
theorem ref_Get_l0 (b : List Nat) (hb : isB b) (hl : b.length < 1000000000) : ∀ (c p : Nat) (acc : List PS), p + 75 * c = b.length → acc.length + c ≤ 1000 → Ev (fun n => merkhetref04_Get.l0 n (txt b) (acc.map mkS) (p : Int)) (resG (joinG acc (getsP c (b.drop p)))) := by
  intro c
  induction c with
  | zero =>
    intro p acc hp ha
    refine Ev.step (f := fun _ => some (acc.map mkS, 0)) (fun k => by rw [merkhetref04_Get.l0, txt_size, if_neg (by omega)]) (ev_eq (Ev.now _) ?_)
    simp [getsP, joinG, resG]
  | succ c ih =>
    intro p acc hp ha
    refine Ev.step (f := fun n => merkhetref04_Get.l1 n (txt b) (acc.map mkS) (p : Int) [] SZ ((p + 0 : Nat) : Int) ((0 : Nat) : Int)) (fun n => by rw [merkhetref04_Get.l0, txt_size, if_pos (by omega)]; rfl) ?_
    refine l1_step b hb hl _ _ [] p 0 0 8 8 rfl rfl rfl (by decide) (by omega) (by decide) (by simp) _ ?_
    refine l1_step b hb hl _ _ _ p 8 1 8 8 rfl rfl rfl (by decide) (by omega) (by decide) (by simp) _ ?_
    refine l1_step b hb hl _ _ _ p 16 2 8 8 rfl rfl rfl (by decide) (by omega) (by decide) (by simp) _ ?_
    refine l1_step b hb hl _ _ _ p 24 3 1 1 rfl rfl rfl (by decide) (by omega) (by decide) (by simp) _ ?_
    refine l1_step b hb hl _ _ _ p 25 4 8 8 rfl rfl rfl (by decide) (by omega) (by decide) (by simp) _ ?_
    refine l1_step b hb hl _ _ _ p 33 5 8 8 rfl rfl rfl (by decide) (by omega) (by decide) (by simp) _ ?_
    refine l1_end b hb hl acc p (by omega) (by omega) _ (fun q hq => ?_) (fun e hq => ?_)
    · have := ih (p + 75) (acc ++ [q]) (by omega) (by rw [List.length_append, List.length_singleton]; omega)
      refine ev_eq this ?_
      rw [getsP, hq, List.drop_drop]
      simp only []
      cases getsP c (b.drop (p + 75)) with
      | error e => rfl
      | ok l => simp [joinG]
    · rw [getsP, hq]; rfl
theorem ref_Get4_ev (b : List Nat) (hb : isB b) (hl : b.length < 1000000000) : Ev (fun n => merkhetref04_Get.f n (txt b)) (resG (wireGet b)) := by
  have j1 : ∀ x : Int, Ev (fun n => merkhetref04_Get.j0 n (txt b) x true) (resG (.error 3)) := fun x => Ev.step (f := fun _ => some ([], 3)) (fun n => by rw [merkhetref04_Get.j0, if_pos rfl]) (Ev.now _)
  unfold wireGet
  by_cases c0 : b.length < 6
  · rw [if_pos c0]
    exact Ev.congr (f := fun _ => some ([], 2)) (fun n => by rw [merkhetref04_Get.f, txt_size, if_pos (by omega)]) (Ev.now _)
  rw [if_neg c0]
  have hg := ref2_Get_ev b ((4 : Nat) : Int) 2 hb (by omega)
  rw [show cnt 2 = 2 from rfl, getR_in b 4 2 (by omega)] at hg
  have hn : num ((b.drop 4).take 2) < 65536 := by
    refine Nat.lt_of_lt_of_le (num_lt _ (isB_take (isB_drop hb 4) 2)) ?_
    exact Nat.le_trans (Nat.pow_le_pow_right (by decide) (List.length_take_le 2 _)) (by decide)
  generalize num ((b.drop 4).take 2) = m at hg hn ⊢
  have hx : (txt b).extract 0 4 = txt (b.take 4) := by
    have := txt_extract b 0 4
    rw [this]; rfl
  have hs : (((txt b).extract 0 4).toList = ([83, 80, 65, 78] : List UInt8)) ↔ b.take 4 = spanHead := by
    rw [hx, show ([83, 80, 65, 78] : List UInt8) = (txt spanHead).toList by rw [txt_toList]; rfl]
    exact txt_eq_iff (isB_take hb 4) (fun x hx => by simp [spanHead] at hx; omega)
  by_cases c1 : b.take 4 = spanHead
  case neg =>
    rw [if_pos c1]
    exact Ev.congr (f := fun _ => some ([], 3)) (fun n => by rw [merkhetref04_Get.f, txt_size, if_neg (by omega), if_pos (by decide), if_pos (by omega), if_neg (fun h => c1 (hs.1 h))]) (Ev.now _)
  rw [if_neg (fun h => h c1)]
  refine Ev.congr (f := fun n => (merkhetref02_Get.f n (txt b) ((4 : Nat) : Int) 2).bind fun bt295 => (if bt295.1 = 0 then (merkhetref04_Get.j0 n (txt b) bt295.1 true) else (merkhetref04_Get.j0 n (txt b) bt295.1 (decide (bt295.1 > 32))))) (fun n => by rw [merkhetref04_Get.f, txt_size, if_neg (by omega), if_pos (by decide), if_pos (by omega), if_pos (hs.2 c1)]; rfl) ?_
  refine Ev.bind hg ?_
  by_cases c2 : m = 0
  · rw [if_pos c2]
    exact Ev.congr (fun n => if_pos (by show ((m : Nat) : Int) = 0; omega)) (j1 _)
  rw [if_neg c2]
  by_cases c3 : 32 < m
  · rw [if_pos c3]
    exact Ev.congr (fun n => by rw [if_neg (by show ¬ ((m : Nat) : Int) = 0; omega), decide_eq_true (by show ((m : Nat) : Int) > 32; omega)]) (j1 _)
  rw [if_neg c3]
  refine Ev.congr (f := fun n => merkhetref04_Get.j0 n (txt b) (m : Int) false) (fun n => by rw [if_neg (by show ¬ ((m : Nat) : Int) = 0; omega), decide_eq_false (by show ¬ ((m : Nat) : Int) > 32; omega)]) ?_
  have hw1 : wrap64 (m : Int) = (m : Int) := w64_ _ (by omega) (by omega)
  have hw2 : wrap64 (75 * (m : Int)) = ((75 * m : Nat) : Int) := by rw [w64_ _ (by omega) (by omega)]; omega
  have hw3 : wrap64 (6 + ((75 * m : Nat) : Int)) = ((6 + 75 * m : Nat) : Int) := by rw [w64_ _ (by omega) (by omega)]; omega
  by_cases c4 : b.length < 6 + 75 * m
  · rw [if_pos c4]
    exact Ev.step (f := fun _ => some ([], 2)) (fun n => by rw [merkhetref04_Get.j0, if_neg (by decide), txt_size, hw1, hw2, hw3, if_pos (by omega)]) (Ev.now _)
  rw [if_neg c4]
  by_cases c5 : 6 + 75 * m < b.length
  · rw [if_pos c5]
    exact Ev.step (f := fun _ => some ([], 3)) (fun n => by rw [merkhetref04_Get.j0, if_neg (by decide), txt_size, hw1, hw2, hw3, if_neg (by omega), if_pos (by omega)]) (Ev.now _)
  rw [if_neg c5]
  have hl0 := ref_Get_l0 b hb hl m 6 [] (by omega) (by simp; omega)
  refine Ev.step (f := fun n => merkhetref04_Get.l0 n (txt b) (([] : List PS).map mkS) ((6 : Nat) : Int)) (fun n => by rw [merkhetref04_Get.j0, if_neg (by decide), txt_size, hw1, hw2, hw3, if_neg (by omega), if_neg (by omega)]; rfl) (ev_eq hl0 ?_)
  cases getsP m (b.drop 6) with
  | error e => rfl
  | ok l => rfl
end
section
open Go.RowKit Go.Proofs.YtdpodjgggicaoaaW.PrintWords Go.Proofs.YtdpodjgggicaoaaW.PrintLast Go.Proofs.YtdpodjgggicaoaaW.PrintMore Go.Proofs.Ytdpodjgggicaoaa.H
theorem w64f (x : Int) (h0 : 0 ≤ x) (h1 : x ≤ 9223372036854775807) : wrap64 x = x := by unfold wrap64; omega
theorem ev_eqf {α : Type} {g : Nat → Option α} {r r' : α} (h : Ev g r) (e : r = r') : Ev g r' := e ▸ h
theorem frame_sum_nat (b : List Nat) (hb : isB b) (hl : b.length < 65536) : frame_sum.f (rowB b) = some ((fsum b : Nat) : Int) := by
  have e : IntKind.u64.wrap ((rowB b).length : Int) = ((b.length : Nat) : Int) := by rw [wu64, rowB_length]; omega
  have h1 := check_Sum_nat (nb 2 b.length) (nb_isB _ _)
  have h2 := check_More_nat (sumFrom 0 (nb 2 b.length)) b (sumFrom_small _ _ (by decide) (nb_isB _ _)) hb
  have hp := pack_Put_nat [] b.length 2 (by decide)
  rw [show (rowB [] : List Int) = [] from rfl, List.nil_append, show cnt 2 = 2 from rfl] at hp
  unfold frame_sum.f
  rw [e, hp, Option.bind_some, show rowB (nb 2 b.length) = (nb 2 b.length).map (fun n : Nat => (n : Int)) from rfl, h1, Option.bind_some, show rowB b = b.map (fun n : Nat => (n : Int)) from rfl, h2, Option.bind_some, ← sumFrom_append]
  rfl
end
section
open Go.RowKit Go.Proofs.YtdpodjgggicaoaaW.PrintWords Go.Proofs.YtdpodjgggicaoaaW.PrintLast Go.Proofs.YtdpodjgggicaoaaW.PrintMore Go.Proofs.Ytdpodjgggicaoaa.H
theorem pack_Get_evf (b : List Nat) (at_ size : Int) (hb : isB b) (hl : b.length < 4611686018427387904) : Ev (fun k => pack_Get.f k (rowB b) at_ size) (getR b at_ (cnt size)) := ⟨9, fun k hk => pack_Get_nat k hk b at_ size hb hl⟩
theorem fr_wraps (L p n : Nat) (h : p + 6 ≤ L) (hL : L < 1000000000) (hn : n < 65536) :
    wrap64 ((L : Int) - (p : Int)) = ((L - p : Nat) : Int) ∧ wrap64 (((L - p : Nat) : Int) - 6) = ((L - p : Nat) : Int) - 6 ∧ wrap64 (n : Int) = (n : Int) ∧ wrap64 ((p : Int) + 6) = ((p + 6 : Nat) : Int) ∧ wrap64 (((p + 6 : Nat) : Int) + (n : Int)) = ((p + 6 + n : Nat) : Int) := by
  refine ⟨?_, ?_, ?_, ?_, ?_⟩ <;> unfold wrap64 <;> omega
theorem frame_Get_ev (b : List Nat) (at_ : Int) (hb : isB b) (hl : b.length < 1000000000) : Ev (fun k => frame_Get.f k (rowB b) at_) (rowB (frameGet b at_).1, (frameGet b at_).2) := by
  have jt : Ev (fun k => frame_Get.j0 k (rowB b) at_ true) (([] : List Int), (0 : Int), (5 : Int)) := Ev.step (f := fun _ => some ([], 0, 5)) (fun k => by rw [frame_Get.j0, if_pos rfl]) (Ev.now _)
  unfold frameGet
  by_cases c1 : at_ < 0
  · rw [if_pos (Or.inl c1)]
    exact Ev.congr (f := fun k => frame_Get.j0 k (rowB b) at_ true) (fun k => by rw [frame_Get.f, if_pos c1]) jt
  by_cases c2 : at_ ≥ (b.length : Int)
  · rw [if_pos (Or.inr c2)]
    exact Ev.congr (f := fun k => frame_Get.j0 k (rowB b) at_ true) (fun k => by rw [frame_Get.f, if_neg c1, rowB_length, decide_eq_true c2]) jt
  rw [if_neg (by omega)]
  refine Ev.congr (f := fun k => frame_Get.j0 k (rowB b) at_ false) (fun k => by rw [frame_Get.f, if_neg c1, rowB_length, decide_eq_false c2]) ?_
  obtain ⟨p, rfl⟩ := Int.eq_ofNat_of_zero_le (show 0 ≤ at_ by omega)
  rw [Int.toNat_natCast]
  have hs := isB_drop hb p
  have hsl : (b.drop p).length = b.length - p := List.length_drop
  have hw2 : wrap64 ((p : Int) + 2) = ((p + 2 : Nat) : Int) := by rw [w64f _ (by omega) (by omega)]; omega
  have g2 := pack_Get_evf b (p : Int) 2 hb (by omega)
  have g4 := pack_Get_evf b ((p + 2 : Nat) : Int) 4 hb (by omega)
  rw [show cnt 2 = 2 from rfl] at g2
  rw [show cnt 4 = 4 from rfl] at g4
  refine Ev.step (f := fun k => (pack_Get.f k (rowB b) (p : Int) 2).bind fun bt138 => ((pack_Get.f k (rowB b) ((p + 2 : Nat) : Int) 4).bind fun bt140 => (if bt140.2 = true then (if bt138.1 = 0 then (frame_Get.j1 k (rowB b) (p : Int) bt138.1 bt140.1 true) else (frame_Get.j1 k (rowB b) (p : Int) bt138.1 bt140.1 (decide (bt138.1 > 2406)))) else (some (([] : List Int), 0, 2))))) (fun k => by rw [frame_Get.j0, if_neg (by decide), hw2]) ?_
  refine Ev.bind g2 (Ev.bind g4 ?_)
  unfold frameAt
  by_cases c3 : (b.drop p).length < 6
  · rw [if_pos c3]
    have : (getR b ((p + 2 : Nat) : Int) 4).2 = false := by unfold getR getN; rw [if_neg (by omega)]
    exact Ev.congr (f := fun _ => some ([], 0, 2)) (fun k => if_neg (by rw [this]; decide)) (Ev.now _)
  rw [if_neg c3]
  have r2 : getR b (p : Int) 2 = (((num ((b.drop p).take 2) : Nat) : Int), true) := by unfold getR getN; rw [if_pos (by omega), Int.toNat_natCast]
  have r4 : getR b ((p + 2 : Nat) : Int) 4 = (((num (((b.drop p).drop 2).take 4) : Nat) : Int), true) := by unfold getR getN; rw [if_pos (by omega), Int.toNat_natCast, List.drop_drop]
  rw [r2, r4]
  have hn : num ((b.drop p).take 2) < 65536 := by
    refine Nat.lt_of_lt_of_le (num_lt _ (isB_take hs 2)) ?_
    exact Nat.le_trans (Nat.pow_le_pow_right (by decide) (List.length_take_le 2 _)) (by decide)
  have ht : (b.take (p + 6 + num ((b.drop p).take 2))).drop (p + 6) = ((b.drop p).drop 6).take (num ((b.drop p).take 2)) := by
    rw [List.drop_take, List.drop_drop]; congr 1; omega
  generalize hnn : num ((b.drop p).take 2) = n at hn ht ⊢
  generalize num (((b.drop p).drop 2).take 4) = own
  have jf : Ev (fun k => frame_Get.j1 k (rowB b) (p : Int) (n : Int) (own : Int) true) (([] : List Int), (0 : Int), (3 : Int)) := Ev.step (f := fun _ => some ([], 0, 3)) (fun k => by rw [frame_Get.j1, if_pos rfl]) (Ev.now _)
  by_cases c4 : n = 0
  · rw [if_pos c4]
    exact Ev.congr (f := fun k => frame_Get.j1 k (rowB b) (p : Int) (n : Int) (own : Int) true) (fun k => (if_pos rfl).trans (if_pos (by show ((n : Nat) : Int) = 0; omega))) jf
  rw [if_neg c4]
  by_cases c5 : 2406 < n
  · rw [if_pos c5]
    exact Ev.congr (f := fun k => frame_Get.j1 k (rowB b) (p : Int) (n : Int) (own : Int) true) (fun k => (if_pos rfl).trans ((if_neg (by show ¬ ((n : Nat) : Int) = 0; omega)).trans (by rw [decide_eq_true (by show ((n : Nat) : Int) > 2406; omega)]))) jf
  rw [if_neg c5]
  refine Ev.congr (f := fun k => frame_Get.j1 k (rowB b) (p : Int) (n : Int) (own : Int) false) (fun k => (if_pos rfl).trans ((if_neg (by show ¬ ((n : Nat) : Int) = 0; omega)).trans (by rw [decide_eq_false (by show ¬ ((n : Nat) : Int) > 2406; omega)]))) ?_
  have E := Aside0.mk (fr_wraps b.length p n (by omega) (by omega) (by omega))
  by_cases c6 : (b.drop p).length < 6 + n
  · rw [if_pos c6]
    exact Ev.step (f := fun _ => some ([], 0, 2)) (fun k => by rw [frame_Get.j1, if_neg (by decide), rowB_length, E.out.1, E.out.2.1, E.out.2.2.1, if_pos (by omega)]) (Ev.now _)
  rw [if_neg c6]
  have hbl : (((b.drop p).drop 6).take n).length = n := by rw [List.length_take, List.length_drop]; omega
  have hbB : isB (((b.drop p).drop 6).take n) := isB_take (isB_drop hs 6) n
  have es : IntKind.u64.wrap ((fsum (((b.drop p).drop 6).take n) : Nat) : Int) = ((fsum (((b.drop p).drop 6).take n) : Nat) : Int) := by have := fsum_lt _ hbB; rw [wu64]; omega
  have hstep : ∀ k, frame_Get.j1 (k + 1) (rowB b) (p : Int) (n : Int) (own : Int) false = if ((own : Nat) : Int) = ((fsum (((b.drop p).drop 6).take n) : Nat) : Int) then some (rowB (((b.drop p).drop 6).take n), ((p + 6 + n : Nat) : Int), 0) else some ([], 0, 8) := fun k => by
    rw [frame_Get.j1, if_neg (by decide), rowB_length, E.out.1, E.out.2.1, E.out.2.2.1, if_neg (by omega), E.out.2.2.2.1, if_pos (by omega), E.out.2.2.2.2, if_pos (by omega), if_pos (by omega), Int.toNat_natCast, Int.toNat_natCast, rowB_take, rowB_drop, ht, clone_nat _ (by omega), Option.bind_some, frame_sum_nat _ hbB (by omega), Option.bind_some, es]
  by_cases c7 : own ≠ fsum (((b.drop p).drop 6).take n)
  · rw [if_pos c7]
    exact Ev.step (f := fun _ => some ([], 0, 8)) (fun k => by rw [hstep, if_neg (by omega)]) (Ev.now _)
  · rw [if_neg c7]
    refine Ev.step (f := fun _ => some (rowB (((b.drop p).drop 6).take n), ((p + 6 + n : Nat) : Int), 0)) (fun k => by rw [hstep, if_pos (by omega)]) (ev_eqf (Ev.now _) ?_)
    simp only [hbl]
    congr 2
end
section
open Go.RowKit Go.Proofs.YtdpodjgggicaoaaW.PrintWords Go.Proofs.YtdpodjgggicaoaaW.PrintLast Go.Proofs.YtdpodjgggicaoaaW.PrintMore Go.Proofs.Ytdpodjgggicaoaa.H
theorem ref2_Put_evf (n : Nat) (size : Int) (hn : n < 18446744073709551616) : Ev (fun k => merkhetref02_Put.f k (n : Int) size) (txt (nb (cnt size) n)) := ⟨9, fun k hk => ref_Put_nat k hk n size hn⟩
theorem ref_Sum_ev (m : List Nat) (hm : isB m) (hn : m.length < 9223372036854775807) : Ev (fun k => merkhetref03_Sum.f k (txt m)) ((sumFrom 0 m : Nat) : Int) := by
  exact Ev.of (fun k => merkhetref03_Sum.mono _ k) (ref_Sum_nat m hm hn)
theorem ref_fPut_ev (b : List Nat) (hb : isB b) (hl : b.length < 1000000000) : Ev (fun k => merkhetref06_Put.f k (txt b)) (txt (framePut b).1, (framePut b).2) := by
  have jt : Ev (fun k => merkhetref06_Put.j0 k (txt b) true) ((⟨#[]⟩ : ByteArray), (1 : Int)) := Ev.step (f := fun _ => some (⟨#[]⟩, 1)) (fun k => by rw [merkhetref06_Put.j0, if_pos rfl]) (Ev.now _)
  unfold framePut
  by_cases c1 : (b.length : Int) = 0
  · rw [if_neg (by omega)]
    exact Ev.congr (f := fun k => merkhetref06_Put.j0 k (txt b) true) (fun k => by rw [merkhetref06_Put.f, txt_size, if_pos c1]) jt
  by_cases c2 : (b.length : Int) > 2406
  · rw [if_neg (by omega)]
    exact Ev.congr (f := fun k => merkhetref06_Put.j0 k (txt b) true) (fun k => by rw [merkhetref06_Put.f, txt_size, if_neg c1, decide_eq_true c2]) jt
  rw [if_pos ⟨by omega, by omega⟩]
  refine Ev.congr (f := fun k => merkhetref06_Put.j0 k (txt b) false) (fun k => by rw [merkhetref06_Put.f, txt_size, if_neg c1, decide_eq_false c2]) ?_
  have e : IntKind.u64.wrap ((txt b).size : Int) = ((b.length : Nat) : Int) := by rw [wu64, txt_size]; omega
  have hlt := fsum_lt b hb
  have es : IntKind.u64.wrap ((fsum b : Nat) : Int) = ((fsum b : Nat) : Int) := by rw [wu64]; omega
  have h2 := ref2_Put_evf b.length 2 (by omega)
  have h4 := ref2_Put_evf (fsum b) 4 (by omega)
  rw [show cnt 2 = 2 from rfl] at h2
  rw [show cnt 4 = 4 from rfl] at h4
  have hs := ref_Sum_ev (nb 2 b.length ++ b) (isB_append (nb_isB _ _) hb) (by rw [List.length_append, nb_length]; omega)
  refine Ev.step (f := fun k => (merkhetref02_Put.f k ((b.length : Nat) : Int) 2).bind fun t132 => (if t132.size + (txt b).size ≤ 9223372036854775807 then ((merkhetref03_Sum.f k (t132 ++ txt b)).bind fun t133 => ((merkhetref02_Put.f k (IntKind.u64.wrap (t133)) 4).bind fun t134 => (if t132.size + t134.size ≤ 9223372036854775807 then (if (t132 ++ t134).size + (txt b).size ≤ 9223372036854775807 then (some ((t132 ++ t134) ++ txt b, 0)) else (none)) else (none)))) else (none))) (fun k => by rw [merkhetref06_Put.j0, if_neg (by decide), e]) ?_
  refine Ev.bind h2 (Ev.congr (fun k => if_pos (by rw [txt_size, txt_size, nb_length]; omega)) ?_)
  rw [txt_append]
  refine Ev.bind hs ?_
  rw [show ((sumFrom 0 (nb 2 b.length ++ b) : Nat) : Int) = ((fsum b : Nat) : Int) from rfl, es]
  refine Ev.bind h4 (Ev.congr (fun k => if_pos (by rw [txt_size, txt_size, nb_length, nb_length]; decide)) (Ev.congr (fun k => if_pos (by rw [txt_append, txt_size, txt_size, List.length_append, nb_length, nb_length]; omega)) (ev_eqf (Ev.now _) ?_)))
  rw [txt_append, txt_append]
end
section
open Go.RowKit Go.Proofs.YtdpodjgggicaoaaW.PrintWords Go.Proofs.YtdpodjgggicaoaaW.PrintLast Go.Proofs.YtdpodjgggicaoaaW.PrintMore Go.Proofs.Ytdpodjgggicaoaa.H
theorem fput_take (s : List Nat) (hs : isB s) (h1 : 1 ≤ num (s.take 2)) (h2 : num (s.take 2) ≤ 2406) (hl : 6 + num (s.take 2) ≤ s.length) :
    (framePut ((s.drop 6).take (num (s.take 2)))).1 = s.take (6 + num (s.take 2)) ↔ num ((s.drop 2).take 4) = fsum ((s.drop 6).take (num (s.take 2))) := by
  have l2 : (s.take 2).length = 2 := by rw [List.length_take]; omega
  have l4 : ((s.drop 2).take 4).length = 4 := by rw [List.length_take, List.length_drop]; omega
  have xl : ((s.drop 6).take (num (s.take 2))).length = num (s.take 2) := by rw [List.length_take, List.length_drop]; omega
  have e6 : s.take (6 + num (s.take 2)) = s.take 2 ++ (s.drop 2).take 4 ++ (s.drop 6).take (num (s.take 2)) := by
    rw [take_split s 6, show s.take 6 = s.take (2 + 4) from rfl, take_split s 2 4]
  have n2 : nb 2 (num (s.take 2)) = s.take 2 := by
    have := nb_num (s.take 2) (isB_take hs 2)
    rwa [l2] at this
  have n4 : nb 4 (num ((s.drop 2).take 4)) = (s.drop 2).take 4 := by
    have := nb_num ((s.drop 2).take 4) (isB_take (isB_drop hs 2) 4)
    rwa [l4] at this
  have hx : isB ((s.drop 6).take (num (s.take 2))) := isB_take (isB_drop hs 6) _
  have hf := fsum_lt _ hx
  rw [e6]
  unfold framePut
  rw [xl, if_pos ⟨h1, h2⟩, n2]
  generalize (s.drop 6).take (num (s.take 2)) = x at *
  constructor
  · intro h
    have h3 := List.append_inj_left h (by simp only [List.length_append, nb_length, l4])
    have h4 := List.append_inj_right h3 rfl
    rw [← h4, num_nb]
    have e : (256 : Nat) ^ 4 = 4294967296 := by decide
    rw [e]; omega
  · intro h
    rw [← h, n4]
theorem ref_fGet_ev (b : List Nat) (at_ : Int) (hb : isB b) (hl : b.length < 1000000000) : Ev (fun k => merkhetref06_Get.f k (txt b) at_) (txt (frameGet b at_).1, (frameGet b at_).2) := by
  have none_ : Ev (fun k => merkhetref06_Get.j0 k (txt b) at_ true) ((⟨#[]⟩ : ByteArray), (0 : Int), (5 : Int)) := Ev.step (f := fun _ => some (⟨#[]⟩, 0, 5)) (fun k => by rw [merkhetref06_Get.j0, if_pos rfl]) (Ev.now _)
  have bad : ∀ (s : ByteArray) (x : Int), Ev (fun k => merkhetref06_Get.j1 k s at_ x true) ((⟨#[]⟩ : ByteArray), (0 : Int), (3 : Int)) := fun s x => Ev.step (f := fun _ => some (⟨#[]⟩, 0, 3)) (fun k => by rw [merkhetref06_Get.j1, if_pos rfl]) (Ev.now _)
  unfold frameGet
  by_cases c1 : at_ < 0
  · rw [if_pos (Or.inl c1)]
    exact Ev.congr (fun k => if_pos c1) none_
  by_cases c2 : at_ ≥ (b.length : Int)
  · rw [if_pos (Or.inr c2)]
    exact Ev.congr (f := fun k => merkhetref06_Get.j0 k (txt b) at_ true) (fun k => by rw [merkhetref06_Get.f, if_neg c1, txt_size, decide_eq_true c2]) none_
  rw [if_neg (by omega)]
  obtain ⟨p, rfl⟩ := Int.eq_ofNat_of_zero_le (show 0 ≤ at_ by omega)
  refine Ev.congr (f := fun k => merkhetref06_Get.j0 k (txt b) (p : Int) false) (fun k => by rw [merkhetref06_Get.f, if_neg c1, txt_size, decide_eq_false c2]) ?_
  rw [Int.toNat_natCast]
  have hs := isB_drop hb p
  have sl : (b.drop p).length = b.length - p := List.length_drop ..
  have ex : (txt b).extract p b.length = txt (b.drop p) := by rw [txt_extract, List.take_of_length_le (Nat.le_refl _)]
  generalize b.drop p = s at *
  unfold frameAt
  by_cases c3 : s.length < 6
  · rw [if_pos c3]
    exact Ev.step (f := fun _ => some ((⟨#[]⟩ : ByteArray), 0, 2)) (fun k => by rw [merkhetref06_Get.j0, if_neg (by decide), if_pos (by omega), txt_size, if_pos (by omega), Int.toNat_natCast, ex, txt_size, if_pos (by omega)]) (Ev.now _)
  rw [if_neg c3]
  have g : Ev (fun k => merkhetref02_Get.f k (txt s) 0 2) (((num (s.take 2) : Nat) : Int), true) := by
    refine ev_eqf ⟨10, fun k hk => ref_Get_nat k hk s 0 2 hs (by omega)⟩ ?_
    unfold getR getN
    rw [show cnt 2 = 2 from rfl, if_pos (by omega)]
    rfl
  refine Ev.step (f := fun k => (merkhetref02_Get.f k (txt s) 0 2).bind fun bt252 => (if bt252.1 = 0 then (merkhetref06_Get.j1 k (txt s) (p : Int) bt252.1 true) else (merkhetref06_Get.j1 k (txt s) (p : Int) bt252.1 (decide (bt252.1 > 2406))))) (fun k => by rw [merkhetref06_Get.j0, if_neg (by decide), if_pos (by omega), txt_size, if_pos (by omega), Int.toNat_natCast, ex, txt_size, if_neg (by omega)]) ?_
  refine Ev.bind g ?_
  have key := fput_take s hs
  have hx : isB ((s.drop 6).take (num (s.take 2))) := isB_take (isB_drop hs 6) _
  have xl : 6 + num (s.take 2) ≤ s.length → ((s.drop 6).take (num (s.take 2))).length = num (s.take 2) := fun h => by rw [List.length_take, List.length_drop]; omega
  by_cases c4 : num (s.take 2) = 0
  · rw [if_pos c4]
    exact Ev.congr (fun k => if_pos (by simp only []; omega)) (bad _ _)
  rw [if_neg c4]
  by_cases c5 : 2406 < num (s.take 2)
  · rw [if_pos c5]
    exact Ev.congr (f := fun k => merkhetref06_Get.j1 k (txt s) (p : Int) ((num (s.take 2) : Nat) : Int) true) (fun k => by simp only []; rw [if_neg (by omega), decide_eq_true (show ((num (s.take 2) : Nat) : Int) > 2406 by omega)]) (bad _ _)
  rw [if_neg c5]
  refine Ev.congr (f := fun k => merkhetref06_Get.j1 k (txt s) (p : Int) ((num (s.take 2) : Nat) : Int) false) (fun k => by simp only []; rw [if_neg (by omega), decide_eq_false (show ¬ ((num (s.take 2) : Nat) : Int) > 2406 by omega)]) ?_
  have e0 : (txt s).extract 0 (6 + num (s.take 2)) = txt (s.take (6 + num (s.take 2))) := by rw [txt_extract, List.drop_zero]
  have e1 : (txt s).extract 6 (6 + num (s.take 2)) = txt ((s.drop 6).take (num (s.take 2))) := by rw [txt_extract, List.drop_take]; congr 2; omega
  generalize num (s.take 2) = n at *
  have w1 : wrap64 (n : Int) = (n : Int) := w64f _ (by omega) (by omega)
  have w2 : wrap64 (6 + (n : Int)) = ((6 + n : Nat) : Int) := by rw [w64f _ (by omega) (by omega)]; omega
  by_cases c6 : s.length < 6 + n
  · rw [if_pos c6]
    exact Ev.step (f := fun _ => some ((⟨#[]⟩ : ByteArray), 0, 2)) (fun k => by rw [merkhetref06_Get.j1, if_neg (by decide), w1, w2, txt_size, if_pos (by omega)]) (Ev.now _)
  rw [if_neg c6]
  have k2 := key (by omega) (by omega) (by omega)
  have x2 := xl (by omega)
  clear key xl
  have w3 : wrap64 ((p : Int) + 6) = (p : Int) + 6 := w64f _ (by omega) (by omega)
  have w4 : wrap64 ((p : Int) + 6 + (n : Int)) = (p : Int) + 6 + (n : Int) := w64f _ (by omega) (by omega)
  have hput := ref_fPut_ev ((s.drop 6).take n) hx (by omega)
  have hpb := framePut_isB hx
  have hst := isB_take hs (6 + n)
  generalize (s.drop 6).take n = x at *
  refine Ev.step (f := fun k => (merkhetref06_Put.f k (txt x)).bind fun bt254 => (if bt254.1.toList = (txt (s.take (6 + n))).toList then (some (txt x, (p : Int) + 6 + (n : Int), 0)) else (some ((⟨#[]⟩ : ByteArray), 0, 8)))) (fun k => by rw [merkhetref06_Get.j1, if_neg (by decide), w1, w2, txt_size, if_neg (by omega), if_pos (by omega), if_pos (by omega), Int.toNat_natCast, e1, e0, w3, w4]; simp only [show (0 : Int) ≤ ((6 + n : Nat) : Int) from by omega, if_true]) ?_
  refine Ev.bind hput ?_
  by_cases c7 : num ((s.drop 2).take 4) = fsum x
  · rw [if_neg (not_not_intro c7), ← x2]
    exact Ev.congr (fun k => if_pos (by rw [x2, k2.2 c7])) (Ev.now _)
  · rw [if_pos c7]
    refine Ev.congr (fun k => if_neg (fun h => c7 (k2.1 ?_))) (Ev.now _)
    rw [txt_toList, txt_toList] at h
    exact u8_inj hpb hst h
end
section
open Go.RowKit Go.Proofs.YtdpodjgggicaoaaW.PrintWords Go.Proofs.YtdpodjgggicaoaaW.PrintLast Go.Proofs.YtdpodjgggicaoaaW.PrintMore Go.Proofs.Ytdpodjgggicaoaa.H
theorem ref_fAll_l0 (b : List Nat) (hb : isB b) (hl : b.length < 1000000000) (most : Nat) (hm : most ≤ 1000) : ∀ (c : Nat) (acc : List (List Nat)) (p : Nat), acc.length + c = most →
    Ev (fun k => merkhetref06_All.l0 k (txt b) (p : Int) (most : Int) (acc.map txt)) ((acc ++ (allF c b p).1).map txt, ((allF c b p).2 : Int)) := by
  intro c
  induction c with
  | zero =>
    intro acc p h
    refine Ev.step (f := fun _ => some (acc.map txt, (p : Int))) (fun k => by rw [merkhetref06_All.l0, if_neg (by rw [List.length_map]; omega)]) ?_
    refine ev_eqf (Ev.now _) ?_
    simp only [allF, List.append_nil]
  | succ c ih =>
    intro acc p h
    have hlt : ((acc.map txt).length : Int) < (most : Int) := by rw [List.length_map]; omega
    have hlim : (acc.map txt).length < 8796093022208 := by rw [List.length_map]; omega
    have fg := ref_fGet_ev b (p : Int) hb hl
    have stop : Ev (fun _ : Nat => some (acc.map txt, (p : Int))) ((acc ++ ([] : List (List Nat))).map txt, (p : Int)) := ev_eqf (Ev.now _) (by simp only [List.append_nil])
    refine Ev.step (f := fun k => (merkhetref06_Get.f k (txt b) (p : Int)).bind fun bt259 => (if bt259.2.2 = 0 then (merkhetref06_All.l0 k (txt b) bt259.2.1 (most : Int) ((acc.map txt) ++ [bt259.1])) else (some (acc.map txt, (p : Int))))) (fun k => by rw [merkhetref06_All.l0, if_pos hlt]; simp only [if_pos hlim]) ?_
    refine Ev.bind fg ?_
    by_cases hp2 : b.length ≤ p
    · have e1 : frameGet b (p : Int) = ([], 0, 5) := by unfold frameGet; rw [if_pos (Or.inr (by omega))]
      have e2 : allF (c + 1) b p = ([], p) := by
        rw [allF, List.drop_eq_nil_of_le hp2]
        rfl
      rw [e1, e2]
      exact Ev.congr (fun k => if_neg (show ¬ ((5 : Int) = 0) by decide)) stop
    · cases hf : frameAt (b.drop p) with
      | error e =>
        have e1 : frameGet b (p : Int) = ([], 0, e) := by unfold frameGet; rw [if_neg (by omega), Int.toNat_natCast, hf]
        have e2 : allF (c + 1) b p = ([], p) := by rw [allF, hf]
        rw [e1, e2]
        exact Ev.congr (fun k => if_neg (show ¬ (e = 0) from frameAt_e0 hf)) stop
      | ok x =>
        have e1 : frameGet b (p : Int) = (x, (p : Int) + 6 + (x.length : Int), 0) := by unfold frameGet; rw [if_neg (by omega), Int.toNat_natCast, hf]
        have e2 : allF (c + 1) b p = (x :: (allF c b (p + 6 + x.length)).1, (allF c b (p + 6 + x.length)).2) := by rw [allF, hf]
        rw [e1, e2]
        have r := ih (acc ++ [x]) (p + 6 + x.length) (by rw [List.length_append]; simp only [List.length_cons, List.length_nil]; omega)
        rw [List.append_assoc, List.map_append, show [x].map txt = [txt x] from rfl, show ((p + 6 + x.length : Nat) : Int) = (p : Int) + 6 + (x.length : Int) by omega] at r
        exact Ev.congr (fun k => if_pos rfl) r
theorem ref_fAll_ev (b : List Nat) (hb : isB b) (hl : b.length < 1000000000) (p most : Nat) (hm : most ≤ 1000) : Ev (fun k => merkhetref06_All.f k (txt b) (p : Int) (most : Int)) ((allF most b p).1.map txt, ((allF most b p).2 : Int)) := ref_fAll_l0 b hb hl most hm most [] p (by simp)
end
section
open Go.RowKit Go.Proofs.YtdpodjgggicaoaaW.PrintWords Go.Proofs.YtdpodjgggicaoaaW.PrintLast Go.Proofs.YtdpodjgggicaoaaW.PrintMore Go.Proofs.Ytdpodjgggicaoaa.H
theorem head_may_nat (n keep : Int) : segment_head_may.f n keep = some (decide (1 ≤ keep ∧ keep ≤ 16)) := by
  unfold segment_head_may.f
  by_cases h : keep ≥ 1
  · rw [if_pos h]
    by_cases h2 : keep ≤ 16
    · rw [decide_eq_true h2, decide_eq_true ⟨h, h2⟩]
    · rw [decide_eq_false h2, decide_eq_false (fun x => h2 x.2)]
  · rw [if_neg h, decide_eq_false (fun x => h x.1)]
theorem segment_Head_nat (n : Nat) (hn : n < 4294967296) (keep : Int) : segment_Head.f (n : Int) keep = some (rowB (segPut n keep).1, (segPut n keep).2) := by
  unfold segment_Head.f segPut
  rw [head_may_nat, Option.bind_some]
  by_cases h : 1 ≤ keep ∧ keep ≤ 16
  · rw [decide_eq_true h, if_pos rfl, if_pos h]
    obtain ⟨q, rfl⟩ := Int.eq_ofNat_of_zero_le (show 0 ≤ keep by omega)
    have w1 : IntKind.u64.wrap (n : Int) = (n : Int) := by rw [wu64]; omega
    have w2 : IntKind.u64.wrap (q : Int) = (q : Int) := by rw [wu64]; omega
    have hs : sumFrom 0 (segBody n q) < 4294967296 := sumFrom_small _ _ (by decide) (segBody_isB n q)
    have w3 : IntKind.u64.wrap ((sumFrom 0 (segBody n q) : Nat) : Int) = ((sumFrom 0 (segBody n q) : Nat) : Int) := by rw [wu64]; omega
    have p1 := pack_Put_nat segLetters n 4 (by decide)
    have p2 := pack_Put_nat (segLetters ++ nb 4 n) q 2 (by rw [List.length_append, nb_length]; decide)
    have p3 := check_Sum_nat (segBody n q) (segBody_isB n q)
    have p4 := pack_Put_nat (segBody n q) (sumFrom 0 (segBody n q)) 4 (by rw [segBody_length]; decide)
    rw [show cnt 4 = 4 from rfl] at p1 p4
    rw [show cnt 2 = 2 from rfl] at p2
    rw [w1, w2, show ([83, 69, 71, 49] : List Int) = rowB segLetters from rfl, p1, Option.bind_some, p2, Option.bind_some, show rowB (segLetters ++ nb 4 n ++ nb 2 q) = (segBody n q).map (fun n : Nat => (n : Int)) from rfl, p3, Option.bind_some, w3, show (segBody n q).map (fun n : Nat => (n : Int)) = rowB (segBody n q) from rfl, p4, Option.bind_some]
    rfl
  · rw [decide_eq_false h, if_neg (by decide), if_neg h]
    rfl
theorem getR_at (b : List Nat) (p k : Nat) (h : p + k ≤ b.length) : getR b (p : Int) k = (((num ((b.drop p).take k) : Nat) : Int), true) := by
  unfold getR getN
  rw [if_pos (by omega), Int.toNat_natCast]
theorem letters_iff (b : List Nat) (hb : isB b) : ((strOfNums ((rowB b).take 4)).toList = ([83, 69, 71, 49] : List UInt8)) ↔ b.take 4 = segLetters := by
  rw [rowB_take, strOf_rowB, txt_toList, show ([83, 69, 71, 49] : List UInt8) = segLetters.map UInt8.ofNat from rfl]
  exact ⟨fun h => u8_inj (isB_take hb 4) segLetters_isB h, fun h => by rw [h]⟩
theorem segment_begin_ev (b : List Nat) (hb : isB b) (hl : b.length < 1000000000) : Ev (fun k => segment_begin.f k (rowB b)) ((segBegin b).1, (segBegin b).2.1, rowB (segBegin b).2.2.1, (segBegin b).2.2.2) := by
  unfold segBegin segment_begin.f
  by_cases c0 : b.length < 14
  · rw [if_pos c0]
    exact Ev.congr (fun k => if_pos (by rw [rowB_length]; omega)) (Ev.now _)
  rw [if_neg c0]
  have g1 : Ev (fun k => pack_Get.f k (rowB b) 4 4) (((num ((b.drop 4).take 4) : Nat) : Int), true) := ev_eqf (pack_Get_evf b 4 4 hb (by omega)) (getR_at b 4 4 (by omega))
  have g2 : Ev (fun k => pack_Get.f k (rowB b) 8 2) (((num ((b.drop 8).take 2) : Nat) : Int), true) := ev_eqf (pack_Get_evf b 8 2 hb (by omega)) (getR_at b 8 2 (by omega))
  have g3 : Ev (fun k => pack_Get.f k (rowB b) 10 4) (((num ((b.drop 10).take 4) : Nat) : Int), true) := ev_eqf (pack_Get_evf b 10 4 hb (by omega)) (getR_at b 10 4 (by omega))
  refine Ev.congr (fun k => if_neg (by rw [rowB_length]; omega)) (Ev.bind g1 (Ev.bind g2 (Ev.bind g3 ?_)))
  have k4 : (4 : Int) ≤ ((rowB b).length : Int) := by rw [rowB_length]; omega
  have k10 : (10 : Int) ≤ ((rowB b).length : Int) := by rw [rowB_length]; omega
  by_cases c1 : b.take 4 = segLetters
  · have c1' := (letters_iff b hb).2 c1
    rw [if_neg (not_not_intro c1)]
    have hsum : check_Sum.f ((rowB b).take 10) = some ((sumFrom 0 (b.take 10) : Nat) : Int) := by rw [rowB_take]; exact check_Sum_nat (b.take 10) (isB_take hb 10)
    have hs : sumFrom 0 (b.take 10) < 4294967296 := sumFrom_small _ _ (by decide) (isB_take hb 10)
    have w3 : IntKind.u64.wrap ((sumFrom 0 (b.take 10) : Nat) : Int) = ((sumFrom 0 (b.take 10) : Nat) : Int) := by rw [wu64]; omega
    have n4 : num ((b.drop 4).take 4) < 4294967296 := by
      refine Nat.lt_of_lt_of_le (num_lt _ (isB_take (isB_drop hb 4) 4)) (Nat.le_trans (Nat.pow_le_pow_right (by decide) (List.length_take_le 4 _)) (by decide))
    have n2 : num ((b.drop 8).take 2) < 65536 := by
      refine Nat.lt_of_lt_of_le (num_lt _ (isB_take (isB_drop hb 8) 2)) (Nat.le_trans (Nat.pow_le_pow_right (by decide) (List.length_take_le 2 _)) (by decide))
    generalize num ((b.drop 4).take 4) = x4 at *
    generalize num ((b.drop 8).take 2) = x8 at *
    generalize num ((b.drop 10).take 4) = x10 at *
    generalize sumFrom 0 (b.take 10) = sm at *
    have m4 : (x4 : Int) % 4294967296 = (x4 : Int) := by omega
    have m8 : wrap64 (x8 : Int) = (x8 : Int) := w64f _ (by omega) (by omega)
    by_cases c2 : x10 = sm
    · have c2' : (x10 : Int) = IntKind.u64.wrap ((sm : Nat) : Int) := by rw [w3, c2]
      rw [if_neg (not_not_intro c2)]
      by_cases c3 : 1 ≤ x8 ∧ x8 ≤ 16
      · rw [if_pos c3]
        refine Ev.congr (fun k => ?_) (Ev.now _)
        simp only []
        rw [if_pos k4, if_pos c1', if_pos k10, hsum, Option.bind_some, if_pos c2', m4, m8, head_may_nat, Option.bind_some, decide_eq_true (show (1 : Int) ≤ (x8 : Int) ∧ (x8 : Int) ≤ 16 by omega), if_pos rfl]
      · rw [if_neg c3]
        refine Ev.congr (fun k => ?_) (Ev.now _)
        simp only []
        rw [if_pos k4, if_pos c1', if_pos k10, hsum, Option.bind_some, if_pos c2', m4, m8, head_may_nat, Option.bind_some, decide_eq_false (show ¬ ((1 : Int) ≤ (x8 : Int) ∧ (x8 : Int) ≤ 16) by omega), if_neg (by decide)]
        rfl
    · have c2' : ¬ (x10 : Int) = IntKind.u64.wrap ((sm : Nat) : Int) := by rw [w3]; omega
      rw [if_pos c2]
      refine Ev.congr (fun k => ?_) (Ev.now _)
      simp only []
      rw [if_pos k4, if_pos c1', if_pos k10, hsum, Option.bind_some, if_neg c2']
      rfl
  · have c1' := fun h => c1 ((letters_iff b hb).1 h)
    rw [if_pos c1]
    exact Ev.congr (fun k => (if_pos k4).trans (if_neg c1')) (Ev.now _)
theorem segBegin_keep (b : List Nat) (h : (segBegin b).2.2.2 = 0) : 1 ≤ (segBegin b).2.1 ∧ (segBegin b).2.1 ≤ 16 ∧ (segBegin b).2.2.1 = b ∧ 14 ≤ b.length := by
  unfold segBegin at h ⊢
  split
  · rename_i c; rw [if_pos c] at h; exact absurd h (by decide)
  · rename_i c0; rw [if_neg c0] at h
    split
    · rename_i c; rw [if_pos c] at h; exact absurd h (by decide)
    · rename_i c; rw [if_neg c] at h
      split
      · rename_i c; rw [if_pos c] at h; exact absurd h (by decide)
      · rename_i c; rw [if_neg c] at h
        split
        · rename_i c; exact ⟨by have := c.1; simp only []; omega, by have := c.2; simp only []; omega, rfl, by omega⟩
        · rename_i c; rw [if_neg c] at h; exact absurd h (by simp)
theorem segment_Read_14 (b : List Nat) (hb : isB b) (hl : b.length ≤ 14) : Ev (fun k => segment_Read.f k (rowB b)) (seg14 b) := by
  unfold segment_Read.f seg14
  refine Ev.bind (segment_begin_ev b hb (by omega)) ?_
  by_cases h : (segBegin b).2.2.2 = 0
  · obtain ⟨h1, h2, h3, h4⟩ := segBegin_keep b h
    rw [if_pos h]
    have fg := frame_Get_ev b 14 hb (by omega)
    have e : frameGet b 14 = ([], 0, 5) := by unfold frameGet; rw [if_pos (Or.inr (by omega))]
    rw [e] at fg
    refine Ev.congr (f := fun k => segment_Read.l0 k (segBegin b).1 (segBegin b).2.1 (rowB b) (segBegin b).1 (segBegin b).2.1 [] 14 false) (fun k => by simp only []; rw [if_pos h, h3]) ?_
    generalize (segBegin b).1 = x at *
    generalize (segBegin b).2.1 = y at *
    refine Ev.step (f := fun k => (frame_Get.f k (rowB b) 14).bind fun bt217 => (if bt217.2.2 = 0 then ((wire_Get.f k bt217.1).bind fun bt222 => (if bt222.2 = 0 then (segment_Read.l0 k x y (rowB b) x y ([] ++ [bt217.1]) bt217.2.1 false) else (some (x, y, [], 14, ((0 : Int) == y), 0)))) else (some (x, y, [], 14, ((0 : Int) == y), 0)))) (fun k => by rw [segment_Read.l0, if_pos (show (([] : List (List Int)).length : Int) < y by rw [List.length_nil]; omega)]; rfl) ?_
    refine Ev.bind fg ?_
    have hy : ((0 : Int) == y) = false := by rw [beq_eq_false_iff_ne]; omega
    rw [← hy]
    exact Ev.congr (fun k => if_neg (by decide)) (Ev.now _)
  · rw [if_neg h]
    exact Ev.congr (fun k => if_neg h) (Ev.now _)
end
section
open Go.RowKit Go.Proofs.YtdpodjgggicaoaaW.PrintWords Go.Proofs.YtdpodjgggicaoaaW.PrintLast Go.Proofs.YtdpodjgggicaoaaW.PrintMore Go.Proofs.Ytdpodjgggicaoaa.H
theorem segment_Read_rows (b : List Nat) (hb : isB b) (hl : b.length < 1000000000) (a : Int) (keep : Nat) (hk : keep ≤ 16) : ∀ (c : Nat) (acc : List (List Nat)) (p : Nat), acc.length + c = keep → p ≤ b.length + 6 →
    Ev (fun k => segment_Read.l0 k a (keep : Int) (rowB b) a (keep : Int) (acc.map rowB) (p : Int) false) (a, (keep : Int), (acc ++ (segRows c b p).1).map rowB, ((segRows c b p).2 : Int), (((acc ++ (segRows c b p).1).length : Int) == (keep : Int)), 0) := by
  intro c
  induction c with
  | zero =>
    intro acc p h hp
    refine Ev.step (f := fun _ => some (a, (keep : Int), acc.map rowB, (p : Int), (((acc.map rowB).length : Int) == (keep : Int)), 0)) (fun k => by rw [segment_Read.l0, if_neg (by rw [List.length_map]; omega)]) ?_
    refine ev_eqf (Ev.now _) ?_
    simp only [segRows, List.append_nil, List.length_map]
  | succ c ih =>
    intro acc p h hp
    have hlt : ((acc.map rowB).length : Int) < (keep : Int) := by rw [List.length_map]; omega
    have hlim : (acc.map rowB).length < 5864062014805 := by rw [List.length_map]; omega
    have fg := frame_Get_ev b (p : Int) hb hl
    have stop : Ev (fun _ : Nat => some (a, (keep : Int), acc.map rowB, (p : Int), (((acc.map rowB).length : Int) == (keep : Int)), (0 : Int))) (a, (keep : Int), (acc ++ ([] : List (List Nat))).map rowB, (p : Int), (((acc ++ ([] : List (List Nat))).length : Int) == (keep : Int)), (0 : Int)) := ev_eqf (Ev.now _) (by simp only [List.append_nil, List.length_map])
    refine Ev.step (f := fun k => (frame_Get.f k (rowB b) (p : Int)).bind fun bt219 => (if bt219.2.2 = 0 then ((wire_Get.f k bt219.1).bind fun bt224 => (if bt224.2 = 0 then (segment_Read.l0 k a (keep : Int) (rowB b) a (keep : Int) ((acc.map rowB) ++ [bt219.1]) bt219.2.1 false) else (some (a, (keep : Int), acc.map rowB, (p : Int), (((acc.map rowB).length : Int) == (keep : Int)), 0)))) else (some (a, (keep : Int), acc.map rowB, (p : Int), (((acc.map rowB).length : Int) == (keep : Int)), 0)))) (fun k => by rw [segment_Read.l0, if_pos hlt]; simp only [if_pos hlim]) ?_
    refine Ev.bind fg ?_
    by_cases hp2 : b.length ≤ p
    · have e1 : frameGet b (p : Int) = ([], 0, 5) := by unfold frameGet; rw [if_pos (Or.inr (by omega))]
      have e2 : segRows (c + 1) b p = ([], p) := by
        rw [segRows, List.drop_eq_nil_of_le hp2]
        rfl
      rw [e1, e2]
      exact Ev.congr (fun k => if_neg (show ¬ ((5 : Int) = 0) by decide)) stop
    · cases hf : frameAt (b.drop p) with
      | error e =>
        have e1 : frameGet b (p : Int) = ([], 0, e) := by unfold frameGet; rw [if_neg (by omega), Int.toNat_natCast, hf]
        have e2 : segRows (c + 1) b p = ([], p) := by rw [segRows, hf]
        rw [e1, e2]
        exact Ev.congr (fun k => if_neg (show ¬ (e = 0) from frameAt_e0 hf)) stop
      | ok x =>
        have e1 : frameGet b (p : Int) = (x, (p : Int) + 6 + (x.length : Int), 0) := by unfold frameGet; rw [if_neg (by omega), Int.toNat_natCast, hf]
        obtain ⟨x1, x2, x3⟩ := frameAt_ok (isB_drop hb p) hf
        have hx : isB x := by
          unfold frameAt at hf
          split at hf
          · exact absurd hf (by simp)
          split at hf
          · exact absurd hf (by simp)
          split at hf
          · exact absurd hf (by simp)
          split at hf
          · exact absurd hf (by simp)
          split at hf
          · exact absurd hf (by simp)
          rw [← Except.ok.inj hf]
          exact isB_take (isB_drop (isB_drop hb p) 6) _
        rw [List.length_drop] at x3
        have wg := wire_Get_ev x hx (by omega)
        rw [e1]
        refine Ev.congr (fun k => if_pos rfl) (Ev.bind wg ?_)
        cases hw : wireGet x with
        | error e =>
          have e2 : segRows (c + 1) b p = ([], p) := by rw [segRows, hf]; simp only [hw]
          rw [e2]
          exact Ev.congr (fun k => if_neg (show ¬ (e = 0) from wireGet_e0 hw)) stop
        | ok l =>
          have e2 : segRows (c + 1) b p = (x :: (segRows c b (p + 6 + x.length)).1, (segRows c b (p + 6 + x.length)).2) := by rw [segRows, hf]; simp only [hw]
          rw [e2]
          have r := ih (acc ++ [x]) (p + 6 + x.length) (by rw [List.length_append]; simp only [List.length_cons, List.length_nil]; omega) (by omega)
          rw [List.append_assoc, List.map_append, show [x].map rowB = [rowB x] from rfl, show ((p + 6 + x.length : Nat) : Int) = (p : Int) + 6 + (x.length : Int) by omega] at r
          exact Ev.congr (fun k => if_pos rfl) r
theorem segment_Read_ev (b : List Nat) (hb : isB b) (hl : b.length < 1000000000) : Ev (fun k => segment_Read.f k (rowB b)) ((segRead b).1, (segRead b).2.1, (segRead b).2.2.1.map rowB, (segRead b).2.2.2.1, (segRead b).2.2.2.2.1, (segRead b).2.2.2.2.2) := by
  unfold segment_Read.f segRead
  refine Ev.bind (segment_begin_ev b hb hl) ?_
  by_cases h : (segBegin b).2.2.2 = 0
  · obtain ⟨h1, h2, h3, h4⟩ := segBegin_keep b h
    rw [if_pos h]
    refine Ev.congr (f := fun k => segment_Read.l0 k (segBegin b).1 (segBegin b).2.1 (rowB b) (segBegin b).1 (segBegin b).2.1 [] 14 false) (fun k => by simp only []; rw [if_pos h, h3]) ?_
    generalize (segBegin b).1 = x at *
    generalize (segBegin b).2.1 = y at *
    obtain ⟨q, rfl⟩ := Int.eq_ofNat_of_zero_le (show 0 ≤ y by omega)
    have r := segment_Read_rows b hb hl x q (by omega) q [] 14 (by simp) (by omega)
    rw [Int.toNat_natCast]
    exact r
  · rw [if_neg h]
    exact Ev.congr (fun k => if_neg h) (Ev.now _)
end
section
open Go.RowKit Go.Proofs.YtdpodjgggicaoaaW.PrintWords Go.Proofs.YtdpodjgggicaoaaW.PrintLast Go.Proofs.YtdpodjgggicaoaaW.PrintMore Go.Proofs.Ytdpodjgggicaoaa.H
theorem seg14_head (n k : Nat) (hn : n < 4294967296) (h1 : 1 ≤ k) (h2 : k ≤ 16) : seg14 (segHead n k) = ((n : Int), (k : Int), [], 14, false, 0) := by
  unfold seg14
  rw [segBegin_head n k hn h1 h2, if_pos rfl]
theorem law07_fixed_ev : Ev (fun k => merkhetlaw07_fixed.f k) true := by
  have h := segment_Head_nat 7 (by decide) 3
  have e : segPut 7 3 = (segHead 7 3, 0) := rfl
  rw [e] at h
  have r := segment_Read_14 (segHead 7 3) (segHead_isB 7 3) (by rw [segHead_length]; decide)
  rw [seg14_head 7 3 (by decide) (by decide) (by decide)] at r
  unfold merkhetlaw07_fixed.f
  have h' : Ev (fun _ : Nat => segment_Head.f 7 3) (rowB (segHead 7 3), (0 : Int)) := ⟨0, fun k _ => h⟩
  refine Ev.bind h' (Ev.bind r ?_)
  exact Ev.congr (fun k => if_pos ⟨⟨rfl, by rw [rowB_length, segHead_length]⟩, rfl, rfl, rfl, rfl, rfl, rfl⟩) (Ev.now _)
end
section
open Go.RowKit Go.Proofs.YtdpodjgggicaoaaW.PrintWords Go.Proofs.YtdpodjgggicaoaaW.PrintLast Go.Proofs.YtdpodjgggicaoaaW.PrintMore Go.Proofs.Ytdpodjgggicaoaa.H
theorem ref_Read_l0 (l : List (List Nat)) (hl : l.length ≤ 1000) (hx : ∀ x ∈ l, isB x ∧ x.length < 100000) (a kp : Int) : ∀ (d i : Nat) (acc : List (List Nat)) (g : Nat), i + d = l.length → acc.length ≤ i → g ≤ 14 + 200000 * i →
    Ev (fun k => merkhetref07_Read.l0 k (l.map txt) (i : Int) a kp (acc.map txt) (g : Int)) (a, kp, (acc ++ (l.drop i).takeWhile okW).map txt, ((g + (((l.drop i).takeWhile okW).map fun x => 6 + x.length).sum : Nat) : Int), 0) := by
  intro d
  induction d with
  | zero =>
    intro i acc g h h2 h3
    refine Ev.step (f := fun _ => some (a, kp, acc.map txt, (g : Int), (0 : Int))) (fun k => by rw [merkhetref07_Read.l0, if_neg (by rw [List.length_map]; omega)]) ?_
    rw [List.drop_eq_nil_of_le (by omega)]
    exact ev_eqf (Ev.now _) (by simp)
  | succ d ih =>
    intro i acc g h h2 h3
    have hi : i < l.length := by omega
    obtain ⟨b1, b2⟩ := hx l[i] (List.getElem_mem hi)
    have hr : rdOf ByteArray.empty (l.map txt) (i : Int) = txt l[i] := by
      simp [rdOf, List.getElem?_eq_getElem hi]
    have wg := ref_Get4_ev l[i] b1 (by omega)
    have hlim : (acc.map txt).length < 8796093022208 := by rw [List.length_map]; omega
    have w1 : wrap64 ((i : Int) + 1) = ((i + 1 : Nat) : Int) := by rw [w64f _ (by omega) (by omega)]; omega
    have w2 : wrap64 ((g : Int) + 6) = ((g + 6 : Nat) : Int) := by rw [w64f _ (by omega) (by omega)]; omega
    have w3 : wrap64 (((g + 6 : Nat) : Int) + ((l[i].length : Nat) : Int)) = ((g + (6 + l[i].length) : Nat) : Int) := by rw [w64f _ (by omega) (by omega)]; omega
    refine Ev.step (f := fun k => (merkhetref04_Get.f k (txt l[i])).bind fun bt316 => (if bt316.2 = 0 then (merkhetref07_Read.l0 k (l.map txt) ((i + 1 : Nat) : Int) a kp ((acc.map txt) ++ [txt l[i]]) ((g + (6 + l[i].length) : Nat) : Int)) else (some (a, kp, acc.map txt, (g : Int), 0)))) (fun k => by rw [merkhetref07_Read.l0, if_pos (by rw [List.length_map]; omega), if_pos (by omega), hr, w1, w2, txt_size, w3]; simp only [if_pos hlim]) ?_
    refine Ev.bind wg ?_
    rw [List.drop_eq_getElem_cons hi, List.takeWhile_cons]
    cases hw : wireGet l[i] with
    | error e =>
      have ho : okW l[i] = false := by unfold okW; rw [hw]
      rw [ho]
      exact Ev.congr (fun k => if_neg (show ¬ (e = 0) from wireGet_e0 hw)) (ev_eqf (Ev.now _) (by simp))
    | ok y =>
      have ho : okW l[i] = true := by unfold okW; rw [hw]
      rw [ho]
      have r := ih (i + 1) (acc ++ [l[i]]) (g + (6 + l[i].length)) (by omega) (by rw [List.length_append]; simp only [List.length_cons, List.length_nil]; omega) (by omega)
      rw [List.append_assoc, List.map_append, show [l[i]].map txt = [txt l[i]] from rfl] at r
      refine Ev.congr (fun k => if_pos rfl) (ev_eqf r ?_)
      simp only [if_true, List.map_cons, List.sum_cons, List.cons_append, List.nil_append, Nat.add_assoc]
end
section
open Go.RowKit Go.Proofs.YtdpodjgggicaoaaW.PrintWords Go.Proofs.YtdpodjgggicaoaaW.PrintLast Go.Proofs.YtdpodjgggicaoaaW.PrintMore Go.Proofs.Ytdpodjgggicaoaa.H
theorem allF_is : ∀ (c : Nat) (b : List Nat) (p : Nat), isB b → ∀ x ∈ (allF c b p).1, isB x ∧ x.length < 100000 := by
  intro c
  induction c with
  | zero => intro b p hb x hx; simp [allF] at hx
  | succ c ih =>
    intro b p hb x hx
    rw [allF] at hx
    cases hf : frameAt (b.drop p) with
    | error e => rw [hf] at hx; simp at hx
    | ok y =>
      rw [hf] at hx
      simp only [List.mem_cons] at hx
      rcases hx with rfl | hx
      · have hs := isB_drop hb p
        refine ⟨?_, by have := (framePut_length _ (frameAt_ok hs hf).1).2.2; omega⟩
        unfold frameAt at hf
        split at hf
        · exact absurd hf (by simp)
        split at hf
        · exact absurd hf (by simp)
        split at hf
        · exact absurd hf (by simp)
        split at hf
        · exact absurd hf (by simp)
        split at hf
        · exact absurd hf (by simp)
        rw [← Except.ok.inj hf]
        exact isB_take (isB_drop hs 6) _
      · exact ih b _ hb x hx
theorem allF_length : ∀ (c : Nat) (b : List Nat) (p : Nat), (allF c b p).1.length ≤ c := by
  intro c
  induction c with
  | zero => intro b p; simp [allF]
  | succ c ih =>
    intro b p
    rw [allF]
    cases hf : frameAt (b.drop p) with
    | error e => simp
    | ok y => simp only [List.length_cons]; have := ih b (p + 6 + y.length); omega
theorem sum_text (b : List Nat) (hb : isB b) (hl : 14 ≤ b.length) (sm : Nat) (hs : sm < 4294967296) : (txt (nb 4 sm)).toList = ((txt b).extract 10 14).toList ↔ num ((b.drop 10).take 4) = sm := by
  have e : (txt b).extract 10 14 = txt ((b.drop 10).take 4) := by rw [txt_extract, List.drop_take]
  have l4 : ((b.drop 10).take 4).length = 4 := by rw [List.length_take, List.length_drop]; omega
  have hB := isB_take (isB_drop hb 10) 4
  rw [e, txt_toList, txt_toList]
  have p4 : (256 : Nat) ^ 4 = 4294967296 := by decide
  constructor
  · intro h
    rw [← u8_inj (nb_isB _ _) hB h, num_nb, p4]; omega
  · intro h
    have := nb_num _ hB
    rw [l4, h] at this
    rw [this]
def segTold (b : List Nat) : Int × Int × List (List Nat) × Int × Int :=
  if (segBegin b).2.2.2 = 0 then ((segBegin b).1, (segBegin b).2.1, (segRows (segBegin b).2.1.toNat b 14).1, ((segRows (segBegin b).2.1.toNat b 14).2 : Int), 0) else (0, 0, [], 0, (segBegin b).2.2.2)
theorem ref_Read_ev (b : List Nat) (hb : isB b) (hl : b.length < 1000000000) : Ev (fun k => merkhetref07_Read.f k (txt b)) ((segTold b).1, (segTold b).2.1, (segTold b).2.2.1.map txt, (segTold b).2.2.2.1, (segTold b).2.2.2.2) := by
  unfold segTold segBegin
  by_cases c0 : b.length < 14
  · rw [if_pos c0]
    exact Ev.congr (fun k => if_pos (by rw [txt_size]; omega)) (Ev.now _)
  rw [if_neg c0]
  have x4 : (txt b).extract 0 4 = txt (b.take 4) := by rw [txt_extract, List.drop_zero]
  have x10 : (txt b).extract 0 10 = txt (b.take 10) := by rw [txt_extract, List.drop_zero]
  have hlet : ((txt (b.take 4)).toList = ([83, 69, 71, 49] : List UInt8)) ↔ b.take 4 = segLetters := by
    rw [txt_toList, show ([83, 69, 71, 49] : List UInt8) = segLetters.map UInt8.ofNat from rfl]
    exact ⟨fun h => u8_inj (isB_take hb 4) segLetters_isB h, fun h => by rw [h]⟩
  by_cases c1 : b.take 4 = segLetters
  case neg =>
    rw [if_pos c1]
    exact Ev.congr (f := fun _ => some (0, 0, [], 0, 3)) (fun k => by rw [merkhetref07_Read.f, txt_size, if_neg (by omega), if_pos (by decide), if_pos (by omega), x4, if_neg (fun h => c1 (hlet.1 h))]) (Ev.now _)
  rw [if_neg (not_not_intro c1)]
  have hs : sumFrom 0 (b.take 10) < 4294967296 := sumFrom_small _ _ (by decide) (isB_take hb 10)
  have h3 : Ev (fun k => merkhetref03_Sum.f k (txt (b.take 10))) ((sumFrom 0 (b.take 10) : Nat) : Int) := Ev.of (fun k => merkhetref03_Sum.mono _ k) (ref_Sum_nat _ (isB_take hb 10) (by rw [List.length_take]; omega))
  have w3 : IntKind.u64.wrap ((sumFrom 0 (b.take 10) : Nat) : Int) = ((sumFrom 0 (b.take 10) : Nat) : Int) := by rw [wu64]; omega
  have h4 : Ev (fun k => merkhetref02_Put.f k ((sumFrom 0 (b.take 10) : Nat) : Int) 4) (txt (nb 4 (sumFrom 0 (b.take 10)))) := ⟨9, fun k hk => ref_Put_nat k hk _ 4 (by omega)⟩
  have key := sum_text b hb (by omega) _ hs
  have g1 : Ev (fun k => merkhetref02_Get.f k (txt b) 4 4) (((num ((b.drop 4).take 4) : Nat) : Int), true) := ev_eqf (ref2_Get_ev b 4 4 hb (by omega)) (getR_at b 4 4 (by omega))
  have g2 : Ev (fun k => merkhetref02_Get.f k (txt b) 8 2) (((num ((b.drop 8).take 2) : Nat) : Int), true) := ev_eqf (ref2_Get_ev b 8 2 hb (by omega)) (getR_at b 8 2 (by omega))
  have n4 : num ((b.drop 4).take 4) < 4294967296 := by
    refine Nat.lt_of_lt_of_le (num_lt _ (isB_take (isB_drop hb 4) 4)) (Nat.le_trans (Nat.pow_le_pow_right (by decide) (List.length_take_le 4 _)) (by decide))
  have n2 : num ((b.drop 8).take 2) < 65536 := by
    refine Nat.lt_of_lt_of_le (num_lt _ (isB_take (isB_drop hb 8) 2)) (Nat.le_trans (Nat.pow_le_pow_right (by decide) (List.length_take_le 2 _)) (by decide))
  generalize num ((b.drop 4).take 4) = x at *
  generalize num ((b.drop 8).take 2) = y at *
  generalize num ((b.drop 10).take 4) = z at *
  generalize sumFrom 0 (b.take 10) = sm at *
  refine Ev.congr (f := fun k => (merkhetref03_Sum.f k (txt (b.take 10))).bind fun t => ((merkhetref02_Put.f k (IntKind.u64.wrap t) 4).bind fun u => (if u.toList = ((txt b).extract 10 14).toList then ((merkhetref02_Get.f k (txt b) 4 4).bind fun p => ((merkhetref02_Get.f k (txt b) 8 2).bind fun q => (if q.1 < 1 then (merkhetref07_Read.j0 k (txt b) p.1 q.1 true) else (merkhetref07_Read.j0 k (txt b) p.1 q.1 (decide (q.1 > 16)))))) else (some (0, 0, ([] : List ByteArray), 0, 8))))) (fun k => by rw [merkhetref07_Read.f, txt_size, if_neg (by omega), if_pos (by decide), if_pos (by omega), x4, if_pos (hlet.2 c1), if_pos (by decide), if_pos (by omega), x10]; simp only [if_pos (show (10 : Nat) ≤ 14 by decide), if_pos (show (10 : Int) ≤ 14 by decide), if_pos (show (14 : Int) ≤ (b.length : Int) by omega)]) ?_
  refine Ev.bind h3 ?_
  rw [w3]
  refine Ev.bind h4 ?_
  by_cases c2 : z = sm
  case neg =>
    rw [if_pos c2]
    exact Ev.congr (fun k => if_neg (fun h => c2 (key.1 h))) (Ev.now _)
  rw [if_neg (not_not_intro c2)]
  refine Ev.congr (fun k => if_pos (key.2 c2)) (Ev.bind g1 (Ev.bind g2 ?_))
  have bad : Ev (fun k => merkhetref07_Read.j0 k (txt b) (x : Int) (y : Int) true) ((0 : Int), (0 : Int), ([] : List ByteArray), (0 : Int), (4 : Int)) := Ev.step (f := fun _ => some (0, 0, [], 0, 4)) (fun k => by rw [merkhetref07_Read.j0, if_pos rfl]) (Ev.now _)
  by_cases c3 : y < 1
  · rw [if_neg (show ¬ (1 ≤ y ∧ y ≤ 16) by omega)]
    exact Ev.congr (fun k => if_pos (by simp only []; omega)) bad
  by_cases c4 : y > 16
  · rw [if_neg (show ¬ (1 ≤ y ∧ y ≤ 16) by omega)]
    exact Ev.congr (f := fun k => merkhetref07_Read.j0 k (txt b) (x : Int) (y : Int) true) (fun k => by simp only []; rw [if_neg (by omega), decide_eq_true (show (y : Int) > 16 by omega)]) bad
  rw [if_pos (show 1 ≤ y ∧ y ≤ 16 by omega)]
  refine Ev.congr (f := fun k => merkhetref07_Read.j0 k (txt b) (x : Int) (y : Int) false) (fun k => by simp only []; rw [if_neg (by omega), decide_eq_false (show ¬ (y : Int) > 16 by omega)]) ?_
  have w5 : wrap64 (y : Int) = (y : Int) := w64f _ (by omega) (by omega)
  have w6 : (x : Int) % 4294967296 = (x : Int) := by omega
  have ra := ref_fAll_ev b hb hl 14 y (by omega)
  obtain ⟨r1, r2⟩ := segRows_all y b 14
  refine Ev.step (f := fun k => (merkhetref06_All.f k (txt b) 14 (y : Int)).bind fun q => (merkhetref07_Read.l0 k q.1 0 (x : Int) (y : Int) ([] : List ByteArray) 14)) (fun k => by rw [merkhetref07_Read.j0, if_neg (by decide), w5, w6]) ?_
  refine Ev.bind ra ?_
  have r := ref_Read_l0 (allF y b 14).1 (by have := allF_length y b 14; omega) (allF_is y b 14 hb) (x : Int) (y : Int) (allF y b 14).1.length 0 [] 14 (Nat.zero_add _) (Nat.le_refl _) (by decide)
  refine ev_eqf r ?_
  simp only [if_true, Int.toNat_natCast, r1, r2, List.drop_zero, List.nil_append]
end
section
open Go.RowKit Go.Proofs.YtdpodjgggicaoaaW.PrintWords Go.Proofs.YtdpodjgggicaoaaW.PrintLast Go.Proofs.YtdpodjgggicaoaaW.PrintMore Go.Proofs.Ytdpodjgggicaoaa.H
theorem Same_l0 (l : List (List Nat)) (hl : l.length ≤ 1000) : ∀ (d i : Nat), i + d = l.length → Ev (fun k => merkhetlaw06_Same.l0 k (l.map rowB) (l.map txt) (l.length : Int) (i : Int)) true := by
  intro d
  induction d with
  | zero => intro i h; exact Ev.step (f := fun _ => some true) (fun k => by rw [merkhetlaw06_Same.l0, if_neg (by omega)]) (Ev.now _)
  | succ d ih =>
    intro i h
    have hi : i < l.length := by omega
    have e1 : rd_L1 (l.map rowB) (i : Int) = rowB l[i] := by
      simp [rd_L1, List.getD_eq_getElem?_getD, List.getElem?_eq_getElem hi]
    have e2 : rdOf ByteArray.empty (l.map txt) (i : Int) = txt l[i] := by
      simp [rdOf, List.getElem?_eq_getElem hi]
    have w1 : wrap64 ((i : Int) + 1) = ((i + 1 : Nat) : Int) := by rw [w64f _ (by omega) (by omega)]; omega
    exact Ev.step (f := fun k => merkhetlaw06_Same.l0 k (l.map rowB) (l.map txt) (l.length : Int) ((i + 1 : Nat) : Int)) (fun k => by rw [merkhetlaw06_Same.l0, if_pos (by omega), if_pos (by omega), if_pos (by rw [List.length_map]; omega), if_pos (by rw [List.length_map]; omega), e1, e2, strOf_rowB, if_pos rfl, w1]) (ih (i + 1) (by omega))
theorem Same_ev (l : List (List Nat)) (hl : l.length ≤ 1000) : Ev (fun k => merkhetlaw06_Same.f k (l.map rowB) (l.map txt)) true :=
  Ev.congr (f := fun k => merkhetlaw06_Same.l0 k (l.map rowB) (l.map txt) (l.length : Int) ((0 : Nat) : Int)) (fun k => by rw [merkhetlaw06_Same.f, if_pos (by rw [List.length_map, List.length_map]), List.length_map]; rfl) (Same_l0 l hl l.length 0 (by omega))
end
section
open Go.RowKit Go.Proofs.YtdpodjgggicaoaaW.PrintWords Go.Proofs.YtdpodjgggicaoaaW.PrintLast Go.Proofs.YtdpodjgggicaoaaW.PrintMore Go.Proofs.Ytdpodjgggicaoaa.H
theorem segRows_length : ∀ (c : Nat) (b : List Nat) (p : Nat), (segRows c b p).1.length ≤ c := by
  intro c
  induction c with
  | zero => intro b p; simp [segRows]
  | succ c ih =>
    intro b p
    rw [segRows]
    cases frameAt (b.drop p) with
    | error e => simp
    | ok x =>
      cases hw : wireGet x with
      | error e => simp [hw]
      | ok l =>
        simp only [hw, List.length_cons]
        have := ih b (p + 6 + x.length); omega
theorem law07_same_ev (b : List Nat) : Ev (fun k => merkhetlaw07_same.f k (segRead b).1 (segRead b).2.1 ((segRead b).2.2.1.map rowB) (segRead b).2.2.2.1 (segRead b).2.2.2.2.1 (segTold b).1 (segTold b).2.1 ((segTold b).2.2.1.map txt) (segTold b).2.2.2.1) true := by
  unfold segRead segTold
  by_cases h : (segBegin b).2.2.2 = 0
  · obtain ⟨h1, h2, h3, h4⟩ := segBegin_keep b h
    rw [if_pos h, if_pos h]
    have hl := segRows_length (segBegin b).2.1.toNat b 14
    generalize (segRows (segBegin b).2.1.toNat b 14) = q at *
    unfold merkhetlaw07_same.f
    refine Ev.congr (f := fun k => (merkhetlaw06_Same.f k (q.1.map rowB) (q.1.map txt)).bind fun t329 => (if t329 = true then (if (segBegin b).2.1 > 0 then (some (((q.1.length : Int) == (segBegin b).2.1) == (((q.1.map txt).length : Int) == (segBegin b).2.1))) else (some (((q.1.length : Int) == (segBegin b).2.1) == false))) else (some false))) (fun k => by simp only [if_true]) ?_
    refine Ev.bind (Same_ev q.1 (by omega)) ?_
    exact Ev.congr (fun k => by rw [if_pos rfl, if_pos (by omega), List.length_map, beq_self_eq_true]) (Ev.now _)
  · rw [if_neg h, if_neg h]
    unfold merkhetlaw07_same.f
    refine Ev.congr (f := fun k => (merkhetlaw06_Same.f k (([] : List (List Nat)).map rowB) (([] : List (List Nat)).map txt)).bind fun t329 => (if t329 = true then some (false == false) else (some false))) (fun k => by simp [if_true]) ?_
    refine Ev.bind (Same_ev [] (by simp)) ?_
    exact Ev.congr (fun k => if_pos rfl) (Ev.now _)
end
end Go.Proofs.Ytdpodjgggicaoaa.SS
