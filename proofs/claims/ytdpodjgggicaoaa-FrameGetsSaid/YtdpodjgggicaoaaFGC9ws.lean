/- Layers 2 to 6: what FrameGets needs, in one text. -/
import Derived.Test.YtdpodjgggicaoaaH1s
import Derived.Test.YtdpodjgggicaoaaFGx1s
import Derived.Test.YtdpodjgggicaoaaFGx2s
import Derived.Test.YtdpodjgggicaoaaH4s
import Derived.Laws.BitsAllLaws
import Derived.Test.YtdpodjgggicaoaaFGx3s
import Derived.Test.YtdpodjgggicaoaaH9s
import Derived.Test.YtdpodjgggicaoaaH7s
import Derived.Test.YtdpodjgggicaoaaH36s
import Derived.Test.YtdpodjgggicaoaaFGx4s
import Derived.Test.YtdpodjgggicaoaaH3s
set_option linter.unusedVariables false
set_option linter.unusedSimpArgs false
namespace Go.Proofs.Ytdpodjgggicaoaa.FG
section
open Go.RowKit Go.Proofs.YtdpodjgggicaoaaW.PrintWords Go.Proofs.YtdpodjgggicaoaaW.PrintLast Go.Proofs.Ytdpodjgggicaoaa.H
theorem steps_round (n : Nat) (hn : n < 4294967296) (k : Nat) (i : Int) (hi : 0 ≤ i) (h8 : i < 8) :
    check_steps.l0 (k + 1) (n : Int) i = check_steps.l0 k ((cs n : Nat) : Int) (i + 1) := by
  have hw : wrap64 (i + 1) = i + 1 := by unfold wrap64; omega
  have ha : Go.bits .and .u32 (n : Int) 1 = ((n % 2 : Nat) : Int) := by
    have := u32_and_nat n 1 hn (by decide)
    rw [Nat.and_one_is_mod] at this; exact this
  simp only [check_steps.l0]
  rw [if_pos h8, ha, hw]
  unfold cs
  by_cases h1 : n % 2 = 1
  · rw [if_neg (by omega), if_pos h1]
    congr 1
    have := u32_xor_nat (n / 2) poly (by omega) (by decide)
    exact this
  · rw [if_pos (by omega), if_neg h1]
    rfl
theorem stepTab_nat (n : Nat) (hn : n < 4294967296) : stepTab (n : Int) = ((csn 8 n : Nat) : Int) := by
  have h : check_steps.f 9 (n : Int) = some ((csn 8 n : Nat) : Int) := by
    unfold check_steps.f
    have e : ∀ d : Nat, ∀ (m : Nat), m < 4294967296 → d ≤ 8 → check_steps.l0 (d + 1) (m : Int) (8 - (d : Int)) = some ((csn d m : Nat) : Int) := by
      intro d
      induction d with
      | zero => intro m _ _; simp [check_steps.l0, csn]
      | succ d ih =>
        intro m hm hd
        rw [steps_round m hm (d + 1) _ (by omega) (by omega)]
        have := ih (cs m) (cs_lt hm) (by omega)
        rw [show (8 : Int) - ((d + 1 : Nat) : Int) + 1 = 8 - (d : Int) by omega, this]
        rfl
    have := e 8 n hn (by omega)
    simpa using this
  simp [stepTab, h]
theorem more_step (c x : Nat) (hc : c < 4294967296) (hx : x < 256) :
    Go.bits .xor .u32 ((c : Int) / 256) (stepTab (Go.bits .xor .u8 ((c : Int) % 256) (x : Int))) = ((csn 8 (c ^^^ x) : Nat) : Int) := by
  have h1 : Go.bits .xor .u8 ((c : Int) % 256) (x : Int) = ((c % 256 ^^^ x : Nat) : Int) := u8_xor_nat (c % 256) x (by omega) hx
  have hlt : c % 256 ^^^ x < 256 := Nat.xor_lt_two_pow (n := 8) (by omega) (by omega)
  rw [h1, stepTab_nat _ (by omega)]
  have h2 := u32_xor_nat (c / 256) (csn 8 (c % 256 ^^^ x)) (by omega) (csn_lt 8 (by omega))
  rw [cs_byte] at h2
  exact h2
theorem more_fold (m : List Nat) : ∀ c : Nat, c < 4294967296 → (∀ x ∈ m, x < 256) →
    (m.map (fun n : Nat => (n : Int))).foldl (fun c x => Go.bits .xor .u32 (c / 256) (stepTab (Go.bits .xor .u8 (c % 256) x))) (c : Int) = ((crc c m : Nat) : Int) := by
  induction m with
  | nil => intro c _ _; rfl
  | cons x r ih =>
    intro c hc h
    have hx := h x (by simp)
    simp only [List.map_cons, List.foldl_cons]
    rw [more_step c x hc hx, ih _ (csn_lt 8 (Nat.xor_lt_two_pow (n := 32) hc (by omega))) (fun y hy => h y (by simp [hy]))]
    rfl
theorem check_More_nat (a : Nat) (m : List Nat) (ha : a < 4294967296) (hm : ∀ x ∈ m, x < 256) :
    check_More.f (a : Int) (m.map (fun n : Nat => (n : Int))) = some ((sumFrom a m : Nat) : Int) := by
  unfold check_More.f
  have h1 : Go.bits .xor .u32 4294967295 (a : Int) = ((ones ^^^ a : Nat) : Int) := u32_xor_nat 4294967295 a (by decide) ha
  have hl : ones ^^^ a < 4294967296 := Nat.xor_lt_two_pow (n := 32) (by decide) (by omega)
  rw [h1, more_fold m _ hl hm]
  exact congrArg some (u32_xor_nat 4294967295 _ (by decide) (crc_lt m (by omega) hm))
theorem check_Sum_nat (m : List Nat) (hm : ∀ x ∈ m, x < 256) : check_Sum.f (m.map (fun n : Nat => (n : Int))) = some ((sumFrom 0 m : Nat) : Int) := by
  unfold check_Sum.f
  have := check_More_nat 0 m (by decide) hm
  rw [show ((0 : Nat) : Int) = 0 from rfl] at this
  rw [this]; rfl
end
section
open Go.RowKit Go.Proofs.YtdpodjgggicaoaaW.PrintWords Go.Proofs.YtdpodjgggicaoaaW.PrintLast Go.Proofs.Ytdpodjgggicaoaa.H
theorem ones_xor (c : Nat) (h : c < 4294967296) : ones ^^^ c = ones - c := by
  have h1 := congrArg BitVec.toNat (BitVec.xor_allOnes (x := BitVec.ofNat 32 c))
  rw [BitVec.toNat_xor, BitVec.toNat_not, BitVec.toNat_allOnes, BitVec.toNat_ofNat, Nat.mod_eq_of_lt h] at h1
  rw [Nat.xor_comm]
  exact h1
theorem bt_nums (m : List Nat) (hm : ∀ x ∈ m, x < 256) (i : Nat) (hi : i < m.length) : bt (strOfNums (m.map (fun n : Nat => (n : Int)))) (i : Int) = ((m.getD i 0 : Nat) : Int) := by
  have hx := hm m[i] (List.getElem_mem hi)
  have hs : (strOfNums (m.map (fun n : Nat => (n : Int)))).size = m.length := by rw [strOfNums_size, List.length_map]
  rw [← bt_at _ _ (by rw [hs]; simpa using hi)]
  have : (strOfNums (m.map (fun n : Nat => (n : Int))))[(i : Int).toNat]'(by rw [hs]; simpa using hi) = UInt8.ofNat m[i] := by
    simp [strOfNums, ByteArray.getElem_eq_getElem_data]
  rw [this]
  simp [List.getD_eq_getElem?_getD, List.getElem?_eq_getElem hi, Nat.mod_eq_of_lt hx]
theorem tmod2 (n : Nat) : Int.tmod (n : Int) 2 = ((n % 2 : Nat) : Int) := by
  rw [Int.tmod_eq_emod_of_nonneg (by omega)]; omega
theorem tdiv2 (n : Nat) (h : n < 4294967296) : (Int.tdiv (n : Int) 2) % 4294967296 = ((n / 2 : Nat) : Int) := by
  rw [Int.tdiv_eq_ediv_of_nonneg (by omega)]; omega
theorem ref_bits (s : ByteArray) (K : Nat) (i : Int) (hi : 0 ≤ i) (hi2 : i < 9223372036854775807) : ∀ d : Nat, d ≤ 8 → ∀ c x : Nat, c < 4294967296 → x < 2 ^ d →
    merkhetref03_More.l1 (K + d + 1) s (c : Int) i (x : Int) (8 - (d : Int)) = merkhetref03_More.l0 K s ((csn d (c ^^^ x) : Nat) : Int) (i + 1) := by
  have hw : wrap64 (i + 1) = i + 1 := by unfold wrap64; omega
  intro d
  induction d with
  | zero =>
    intro _ c x hc hx
    obtain rfl : x = 0 := by omega
    simp only [merkhetref03_More.l1]
    rw [if_neg (by omega), hw]
    simp [csn]
  | succ d ih =>
    intro hd c x hc hx
    have hx32 : x < 4294967296 := Nat.lt_of_lt_of_le hx (Nat.pow_le_pow_right (by decide) (show d + 1 ≤ 32 by omega))
    have hx2 : x / 2 < 2 ^ d := by rw [Nat.pow_succ] at hx; omega
    have hw2 : wrap64 (8 - ((d + 1 : Nat) : Int) + 1) = 8 - (d : Int) := by unfold wrap64; omega
    rw [merkhetref03_More.l1, if_pos (by omega), tmod2, tmod2, tdiv2 c hc, tdiv2 x hx32, hw2]
    by_cases hp : c % 2 = x % 2
    · rw [if_pos (by omega), show K + (d + 1) = K + d + 1 by omega, ih (by omega) (c / 2) (x / 2) (by omega) hx2]
      congr 2
      simp only [csn]
      congr 1
      unfold cs
      rw [if_neg (by rw [xor_mod2]; omega), xor_div2]
    · rw [if_neg (by omega)]
      have h1 := u32_xor_nat (c / 2) poly (by omega) (by decide)
      rw [show ((poly : Nat) : Int) = 3988292384 from rfl] at h1
      rw [h1, show K + (d + 1) = K + d + 1 by omega, ih (by omega) (c / 2 ^^^ poly) (x / 2) (Nat.xor_lt_two_pow (n := 32) (by omega) (by decide)) hx2]
      congr 2
      simp only [csn]
      congr 1
      unfold cs
      rw [if_pos (by rw [xor_mod2]; omega), xor_div2, Nat.xor_assoc, Nat.xor_comm poly, ← Nat.xor_assoc]
theorem ref_loop (m : List Nat) (hm : ∀ x ∈ m, x < 256) (hn : m.length < 9223372036854775807) : ∀ d : Nat, ∀ (i c : Nat), i + d = m.length → c < 4294967296 →
    merkhetref03_More.l0 (10 * d + 1) (strOfNums (m.map (fun n : Nat => (n : Int)))) (c : Int) (i : Int) = some ((ones ^^^ crc c (m.drop i) : Nat) : Int) := by
  have hs : (strOfNums (m.map (fun n : Nat => (n : Int)))).size = m.length := by rw [strOfNums_size, List.length_map]
  intro d
  induction d with
  | zero =>
    intro i c hi hc
    simp only [merkhetref03_More.l0]
    rw [if_neg (by rw [hs]; omega), List.drop_of_length_le (by omega), show crc c [] = c from rfl, ones_xor c hc]
    congr 1
    unfold ones
    omega
  | succ d ih =>
    intro i c hi hc
    have hil : i < m.length := by omega
    have hx := hm m[i] (List.getElem_mem hil)
    rw [show 10 * (d + 1) + 1 = (10 * d + 1 + 8 + 1) + 1 by omega]
    simp only [merkhetref03_More.l0]
    rw [if_pos (by rw [hs]; omega), if_pos (by omega), bt_nums m hm i hil]
    have hg : m.getD i 0 = m[i] := by simp [List.getD_eq_getElem?_getD, List.getElem?_eq_getElem hil]
    rw [hg, show (((m[i] : Nat) : Int)) % 4294967296 = ((m[i] : Nat) : Int) by omega]
    have h := ref_bits (strOfNums (m.map (fun n : Nat => (n : Int)))) (10 * d + 1) (i : Int) (by omega) (by omega) 8 (by omega) c m[i] hc (by omega)
    rw [show (8 : Int) - ((8 : Nat) : Int) = 0 from rfl] at h
    rw [h, show ((i : Int) + 1) = ((i + 1 : Nat) : Int) from rfl, ih (i + 1) _ (by omega) (csn_lt 8 (Nat.xor_lt_two_pow (n := 32) hc (by omega)))]
    rw [List.drop_eq_getElem_cons hil]
    rfl
theorem ref_More_nat (a : Nat) (m : List Nat) (ha : a < 4294967296) (hm : ∀ x ∈ m, x < 256) (hn : m.length < 9223372036854775807) :
    merkhetref03_More.f (10 * m.length + 1) (a : Int) (strOfNums (m.map (fun n : Nat => (n : Int)))) = some ((sumFrom a m : Nat) : Int) := by
  unfold merkhetref03_More.f
  have h1 : ((4294967295 : Int) - (a : Int)) % 4294967296 = ((ones ^^^ a : Nat) : Int) := by rw [ones_xor a ha]; unfold ones; omega
  rw [h1]
  have := ref_loop m hm hn m.length 0 (ones ^^^ a) (by omega) (Nat.xor_lt_two_pow (n := 32) (by decide) (by omega))
  rw [List.drop_zero] at this
  exact this
theorem ref_Sum_nat (m : List Nat) (hm : ∀ x ∈ m, x < 256) (hn : m.length < 9223372036854775807) :
    merkhetref03_Sum.f (10 * m.length + 1) (strOfNums (m.map (fun n : Nat => (n : Int)))) = some ((sumFrom 0 m : Nat) : Int) := by
  unfold merkhetref03_Sum.f
  have := ref_More_nat 0 m (by decide) hm hn
  rw [show ((0 : Nat) : Int) = 0 from rfl] at this
  rw [this]; rfl
end
section
open Go.RowKit Go.Proofs.YtdpodjgggicaoaaW.PrintWords Go.Proofs.YtdpodjgggicaoaaW.PrintLast Go.Proofs.YtdpodjgggicaoaaW.PrintMore Go.Proofs.Ytdpodjgggicaoaa.H
theorem w64 (x : Int) (h0 : 0 ≤ x) (h1 : x ≤ 9223372036854775807) : wrap64 x = x := by unfold wrap64; omega
theorem wu64 (x : Int) : IntKind.u64.wrap x = x % 18446744073709551616 := by simp [IntKind.wrap, IntKind.bits, IntKind.signed]
theorem cnt_mn (size : Int) : mn (mx size 0) 8 = (cnt size : Int) := by
  unfold mn mx cnt
  split <;> split <;> omega
theorem putNums_nb (k : Nat) : ∀ n : Nat, putNums k (n : Int) = rowB (nb k n) := by
  induction k with
  | zero => intro n; rfl
  | succ k ih =>
    intro n
    simp only [putNums, nb, rowB_cons]
    rw [show (n : Int) / 256 = ((n / 256 : Nat) : Int) by omega, ih, show (n : Int) % 256 = ((n % 256 : Nat) : Int) by omega]
theorem pack_Put_nat (b : List Nat) (n : Nat) (size : Int) (hl : b.length + 8 < 140737488355328) : pack_Put.f (rowB b) (n : Int) size = some (rowB (b ++ nb (cnt size) n)) := by
  unfold pack_Put.f
  rw [rowB_length, if_pos hl, cnt_mn, Int.toNat_natCast, putNums_nb, rowB_append]
theorem or_low (x y : Nat) (hx : x < 72057594037927936) (hy : y < 256) : Go.bits .or .u64 ((x * 256 : Nat) : Int) ((y : Nat) : Int) = ((x * 256 + y : Nat) : Int) := by
  rw [u64_or_nat (x * 256) y (by omega) (by omega), nat_join 8 (x * 256) y (by omega) (by omega)]
theorem getD_drop_take (b : List Nat) (p k : Nat) (h : p + k < b.length) : (b.drop p).take (k + 1) = (b.drop p).take k ++ [b.getD (p + k) 0] := by
  have hk : k < (b.drop p).length := by rw [List.length_drop]; omega
  rw [List.take_succ_eq_append_getElem hk, List.getElem_drop, List.getD_eq_getElem?_getD, List.getElem?_eq_getElem h]
  rfl
theorem pack_Get_loop (b : List Nat) (p k : Nat) (hb : isB b) (hk : k ≤ 8) (hp : p + k ≤ b.length) (hl : b.length < 4611686018427387904) : ∀ (d : Nat) (acc : List Nat), d ≤ k → (b.drop p).take k = (b.drop p).take d ++ acc →
    pack_Get.l0 (d + 1) (rowB b) (p : Int) ((num acc : Nat) : Int) ((d : Int) - 1) = some (((num ((b.drop p).take k) : Nat) : Int), true) := by
  intro d
  induction d with
  | zero =>
    intro acc hd h
    rw [pack_Get.l0, if_neg (by omega)]
    rw [h]; simp
  | succ d ih =>
    intro acc hd h
    have hacc : isB acc := isB_right (h ▸ isB_take (isB_drop hb p) k)
    have hal : acc.length = k - (d + 1) := by
      have := congrArg List.length h
      rw [List.length_append, List.length_take, List.length_take, List.length_drop] at this
      omega
    have hlt := num_lt acc hacc
    have hle : 256 ^ acc.length ≤ 72057594037927936 := by
      have : 256 ^ acc.length ≤ 256 ^ 7 := Nat.pow_le_pow_right (by decide) (by omega)
      exact Nat.le_trans this (by decide)
    have hx : num acc < 72057594037927936 := Nat.lt_of_lt_of_le hlt hle
    clear hlt hle
    have hw : wrap64 ((p : Int) + (((d + 1 : Nat) : Int) - 1)) = ((p + d : Nat) : Int) := by rw [w64 _ (by omega) (by omega)]; omega
    have hw2 : wrap64 ((((d + 1 : Nat) : Int) - 1) - 1) = (d : Int) - 1 := by unfold wrap64; omega
    have hy := getD_lt hb (p + d)
    have hu1 : IntKind.u64.wrap (((num acc : Nat) : Int) * 256) = ((num acc * 256 : Nat) : Int) := by rw [wu64]; omega
    have hu2 : IntKind.u64.wrap (((b.getD (p + d) 0 : Nat)) : Int) = ((b.getD (p + d) 0 : Nat) : Int) := by rw [wu64]; omega
    rw [pack_Get.l0, if_pos (by omega), hw, if_pos (by omega), rowB_length, if_pos (by omega), rd_rowB _ _ (by omega), hu1, hu2, or_low _ _ hx hy, hw2]
    have h2 := ih (b.getD (p + d) 0 :: acc) (by omega) (by rw [h, getD_drop_take b p d (by omega)]; simp)
    simp only [num] at h2
    rw [show num acc * 256 + b.getD (p + d) 0 = b.getD (p + d) 0 + 256 * num acc by omega]
    exact h2
theorem pack_there_nat (b : List Nat) (at_ : Int) (k : Nat) (hl : b.length < 4611686018427387904) : pack_there.f (rowB b) at_ (k : Int) = some (decide (0 ≤ at_ ∧ at_ + (k : Int) ≤ (b.length : Int))) := by
  unfold pack_there.f
  rw [rowB_length]
  by_cases h1 : at_ ≥ 0
  · rw [if_pos h1]
    by_cases h2 : at_ ≤ (b.length : Int)
    · rw [if_pos h2, w64 _ (by omega) (by omega)]
      congr 1
      rw [decide_eq_decide]
      omega
    · rw [if_neg h2, decide_eq_false (by omega)]
  · rw [if_neg h1, decide_eq_false (by omega)]
def getR (b : List Nat) (at_ : Int) (k : Nat) : Int × Bool := match getN b at_ k with
  | some n => ((n : Int), true)
  | none => (0, false)
theorem pack_Get_nat (K : Nat) (hK : 9 ≤ K) (b : List Nat) (at_ size : Int) (hb : isB b) (hl : b.length < 4611686018427387904) : pack_Get.f K (rowB b) at_ size = some (getR b at_ (cnt size)) := by
  have hc := cnt_le size
  refine at_rounds (pack_Get.mono (rowB b) at_ size) (show cnt size + 1 ≤ K by omega) ?_
  unfold pack_Get.f
  have h1 : pack_count.f size = some (cnt size : Int) := by unfold pack_count.f; rw [cnt_mn]
  rw [h1]
  simp only [Option.bind_some]
  rw [pack_there_nat b at_ (cnt size) hl]
  simp only [Option.bind_some]
  unfold getR getN
  by_cases h : 0 ≤ at_ ∧ at_ + (cnt size : Int) ≤ (b.length : Int)
  · rw [decide_eq_true h, if_pos rfl, if_pos h]
    obtain ⟨p, rfl⟩ := Int.eq_ofNat_of_zero_le h.1
    have hw : wrap64 ((cnt size : Int) - 1) = (cnt size : Int) - 1 := by unfold wrap64; omega
    have := pack_Get_loop b p (cnt size) hb hc (by omega) hl (cnt size) [] (Nat.le_refl _) (by simp)
    rw [hw]
    rw [Int.toNat_natCast]
    exact this
  · rw [decide_eq_false h, if_neg (by decide), if_neg h]
theorem clone_nat (b : List Nat) (hl : b.length < 70368744177664) : slices_Clone_byte_byte.f (rowB b) = some (rowB b) := by
  unfold slices_Clone_byte_byte.f; rw [rowB_length, if_pos (by omega)]
end
section
open Go.RowKit Go.Proofs.YtdpodjgggicaoaaW.PrintWords Go.Proofs.YtdpodjgggicaoaaW.PrintLast Go.Proofs.YtdpodjgggicaoaaW.PrintMore Go.Proofs.Ytdpodjgggicaoaa.H
theorem ref_Count_nat (size : Int) : merkhetref02_Count.f size = some (cnt size : Int) := by
  unfold merkhetref02_Count.f cnt
  split
  · congr 1; omega
  · split
    · congr 1; omega
    · congr 1; omega
theorem ref_Put_loop (size : Int) : ∀ (d i n : Nat) (acc : List Nat), i + d = cnt size → isB acc → acc.length = i → n < 18446744073709551616 →
    merkhetref02_Put.l0 (d + 1) (n : Int) size (txt acc) (i : Int) = some (txt (acc ++ nb d n)) := by
  have hc := cnt_le size
  intro d
  induction d with
  | zero =>
    intro i n acc hi ha hl hn
    rw [merkhetref02_Put.l0, ref_Count_nat]
    simp only [Option.bind_some]
    rw [if_neg (by omega)]
    simp [nb]
  | succ d ih =>
    intro i n acc hi ha hl hn
    have h1 : Int.tmod (n : Int) 256 % 256 = ((n % 256 : Nat) : Int) := by rw [Int.tmod_eq_emod_of_nonneg (by omega)]; omega
    have h2 : IntKind.u64.wrap (Int.tdiv (n : Int) 256) = ((n / 256 : Nat) : Int) := by rw [wu64, Int.tdiv_eq_ediv_of_nonneg (by omega)]; omega
    have h3 : wrap64 ((i : Int) + 1) = ((i + 1 : Nat) : Int) := w64 _ (by omega) (by omega)
    rw [merkhetref02_Put.l0, ref_Count_nat]
    simp only [Option.bind_some]
    rw [if_pos (by omega), h1, h2, h3, show ([((n % 256 : Nat) : Int)] : List Int) = rowB [n % 256] from rfl, strOf_rowB, txt_size, txt_size, if_pos (by simp; omega), txt_append]
    rw [ih (i + 1) (n / 256) (acc ++ [n % 256]) (by omega) (isB_append ha (isB_cons (Nat.mod_lt _ (by decide)) isB_nil)) (by simp; omega) (by omega)]
    simp [nb]
theorem ref_Put_nat (K : Nat) (hK : 9 ≤ K) (n : Nat) (size : Int) (hn : n < 18446744073709551616) : merkhetref02_Put.f K (n : Int) size = some (txt (nb (cnt size) n)) := by
  have hc := cnt_le size
  refine at_rounds (merkhetref02_Put.mono (n : Int) size) (show cnt size + 1 ≤ K by omega) ?_
  have := ref_Put_loop size (cnt size) 0 n [] (by omega) isB_nil rfl hn
  rw [List.nil_append] at this
  exact this
end
section
open Go.RowKit Go.Proofs.YtdpodjgggicaoaaW.PrintWords Go.Proofs.YtdpodjgggicaoaaW.PrintLast Go.Proofs.YtdpodjgggicaoaaW.PrintMore Go.Proofs.Ytdpodjgggicaoaa.H
theorem get_nums (N P y z : Nat) (hz : P * y = z) (hy : y < 256) (hlt : N + z < 18446744073709551616) : IntKind.u64.wrap ((y : Nat) : Int) = ((y : Nat) : Int) ∧ IntKind.u64.wrap (((P : Nat) : Int) * ((y : Nat) : Int)) = ((z : Nat) : Int) ∧
    IntKind.u64.wrap (((N : Nat) : Int) + ((z : Nat) : Int)) = ((N + z : Nat) : Int) ∧ IntKind.u64.wrap (((P : Nat) : Int) * 256) = ((P * 256 % 18446744073709551616 : Nat) : Int) := by
  refine ⟨by rw [wu64]; omega, ?_, by rw [wu64]; omega, by rw [wu64]; omega⟩
  rw [wu64, ← Int.natCast_mul, hz]
  omega
set_option maxHeartbeats 1000000 in
theorem ref_Get_loop (b : List Nat) (p k : Nat) (hb : isB b) (hk : k ≤ 8) (hp : p + k ≤ b.length) (hl : b.length < 4611686018427387904) : ∀ (d i : Nat) (acc : List Nat), i + d = k → acc = (b.drop p).take i →
    merkhetref02_Get.l0 (d + 1) (txt b) (p : Int) (k : Int) ((num acc : Nat) : Int) ((256 ^ i % 18446744073709551616 : Nat) : Int) (i : Int) = some (((num ((b.drop p).take k) : Nat) : Int), true) := by
  intro d
  induction d with
  | zero =>
    intro i acc hi h
    rw [merkhetref02_Get.l0, if_neg (by omega), h]
    rw [show i = k by omega]
  | succ d ih =>
    intro i acc hi h
    have hil : i < k := by omega
    have hacc : isB acc := h ▸ isB_take (isB_drop hb p) i
    have hal : acc.length = i := by rw [h, List.length_take, List.length_drop]; omega
    have hy := getD_lt hb (p + i)
    have hsn : acc ++ [b.getD (p + i) 0] = (b.drop p).take (i + 1) := by rw [h, getD_drop_take b p i (by omega)]
    have hnum : num (acc ++ [b.getD (p + i) 0]) = num acc + 256 ^ i * b.getD (p + i) 0 := by rw [num_append, hal]; simp [num]
    have hlt : num (acc ++ [b.getD (p + i) 0]) < 256 ^ 8 := by
      refine Nat.lt_of_lt_of_le (num_lt _ (isB_append hacc (isB_cons hy isB_nil))) (Nat.pow_le_pow_right (by decide) ?_)
      rw [List.length_append, hal]; simp; omega
    have hpow : 256 ^ i % 18446744073709551616 = 256 ^ i := Nat.mod_eq_of_lt (Nat.lt_of_lt_of_le (Nat.pow_lt_pow_right (by decide) (show i < 8 by omega)) (by decide))
    have e8 : (256 : Nat) ^ 8 = 18446744073709551616 := by decide
    rw [hnum, e8] at hlt
    obtain ⟨hu2, hu3, hu4, hu5⟩ := get_nums (num acc) (256 ^ i) (b.getD (p + i) 0) _ rfl hy hlt
    have hw : wrap64 ((p : Int) + (i : Int)) = ((p + i : Nat) : Int) := by clear hu2 hu3 hu4 hu5 hlt hpow hnum; exact w64 _ (by omega) (by omega)
    have hw3 : wrap64 ((i : Int) + 1) = ((i + 1 : Nat) : Int) := by clear hu2 hu3 hu4 hu5 hlt hpow hnum; exact w64 _ (by omega) (by omega)
    have c1 : (i : Int) < (k : Int) := by clear hu2 hu3 hu4 hu5 hlt hpow hnum; omega
    have c2 : ((p + i : Nat) : Int) < (b.length : Int) := by clear hu2 hu3 hu4 hu5 hlt hpow hnum; omega
    have c3 : p + i < b.length := by clear hu2 hu3 hu4 hu5 hlt hpow hnum; omega
    have c4 : i + 1 + d = k := by clear hu2 hu3 hu4 hu5 hlt hpow hnum; omega
    rw [hpow, merkhetref02_Get.l0, if_pos c1, hw, if_pos (Int.natCast_nonneg _), txt_size, if_pos c2, bt_txt b hb _ c3, hu2, hu3, hu4, hu5, hw3]
    have h2 := ih (i + 1) (acc ++ [b.getD (p + i) 0]) c4 hsn
    rw [hnum, Nat.pow_succ] at h2
    exact h2
theorem ref_Get_nat (K : Nat) (hK : 10 ≤ K) (b : List Nat) (at_ size : Int) (hb : isB b) (hl : b.length < 4611686018427387904) : merkhetref02_Get.f K (txt b) at_ size = some (getR b at_ (cnt size)) := by
  have hc := cnt_le size
  have hj : ∀ v, merkhetref02_Get.j0 (cnt size + 2) (txt b) at_ (cnt size : Int) v = if v = true then some (0, false) else merkhetref02_Get.l0 (cnt size + 1) (txt b) at_ (cnt size : Int) 0 1 0 := fun v => by rw [merkhetref02_Get.j0]
  refine at_rounds (merkhetref02_Get.mono (txt b) at_ size) (show cnt size + 2 ≤ K by omega) ?_
  unfold merkhetref02_Get.f
  rw [ref_Count_nat]
  simp only [Option.bind_some]
  rw [txt_size]
  unfold getR getN
  by_cases h : 0 ≤ at_ ∧ at_ + (cnt size : Int) ≤ (b.length : Int)
  · rw [if_neg (by omega), if_neg (by omega), w64 _ (by omega) (by omega), decide_eq_false (by omega), hj, if_neg (by decide), if_pos h]
    obtain ⟨p, rfl⟩ := Int.eq_ofNat_of_zero_le h.1
    have := ref_Get_loop b p (cnt size) hb hc (by omega) hl (cnt size) 0 [] (by omega) (by simp)
    rw [Int.toNat_natCast]
    exact this
  · rw [if_neg h]
    by_cases h1 : at_ < 0
    · rw [if_pos h1, hj, if_pos rfl]
    · rw [if_neg h1]
      by_cases h2 : at_ > (b.length : Int)
      · rw [if_pos h2, hj, if_pos rfl]
      · rw [if_neg h2, w64 _ (by omega) (by omega), decide_eq_true (by omega), hj, if_pos rfl]
end
section
open Go.RowKit Go.Proofs.YtdpodjgggicaoaaW.PrintWords Go.Proofs.YtdpodjgggicaoaaW.PrintLast Go.Proofs.YtdpodjgggicaoaaW.PrintMore Go.Proofs.Ytdpodjgggicaoaa.H
theorem w64f (x : Int) (h0 : 0 ≤ x) (h1 : x ≤ 9223372036854775807) : wrap64 x = x := by unfold wrap64; omega
theorem ev_eqf {α : Type} {g : Nat → Option α} {r r' : α} (h : Ev g r) (e : r = r') : Ev g r' := e ▸ h
theorem frame_sum_nat (b : List Nat) (hb : isB b) (hl : b.length < 65536) : frame_sum.f (rowB b) = some ((fsum b : Nat) : Int) := by
  have e : IntKind.u64.wrap ((rowB b).length : Int) = ((b.length : Nat) : Int) := by rw [wu64, rowB_length]; omega
  have h1 := check_Sum_nat (nb 2 b.length) (nb_isB _ _)
  have h2 := check_More_nat (sumFrom 0 (nb 2 b.length)) b (sumFrom_small _ _ (by decide) (nb_isB _ _)) hb
  have hp := pack_Put_nat [] b.length 2 (by decide)
  rw [show (rowB [] : List Int) = [] from rfl, List.nil_append, show cnt 2 = 2 from rfl] at hp
  unfold frame_sum.f
  rw [e, hp, Option.bind_some, show rowB (nb 2 b.length) = (nb 2 b.length).map (fun n : Nat => (n : Int)) from rfl, h1, Option.bind_some, show rowB b = b.map (fun n : Nat => (n : Int)) from rfl, h2, Option.bind_some, ← sumFrom_append]
  rfl
end
section
open Go.RowKit Go.Proofs.YtdpodjgggicaoaaW.PrintWords Go.Proofs.YtdpodjgggicaoaaW.PrintLast Go.Proofs.YtdpodjgggicaoaaW.PrintMore Go.Proofs.Ytdpodjgggicaoaa.H
theorem frame_Put_ev (b : List Nat) (hb : isB b) : Ev (fun k => frame_Put.f k (rowB b)) (rowB (framePut b).1, (framePut b).2) := by
  have jt : Ev (fun k => frame_Put.j0 k (rowB b) true) (([] : List Int), (1 : Int)) := Ev.step (f := fun _ => some ([], 1)) (fun k => by rw [frame_Put.j0, if_pos rfl]) (Ev.now _)
  unfold framePut
  by_cases c1 : (b.length : Int) < 1
  · rw [if_neg (by omega)]
    exact Ev.congr (f := fun k => frame_Put.j0 k (rowB b) true) (fun k => by rw [frame_Put.f, rowB_length, if_pos c1]) jt
  by_cases c2 : (b.length : Int) > 2406
  · rw [if_neg (by omega)]
    exact Ev.congr (f := fun k => frame_Put.j0 k (rowB b) true) (fun k => by rw [frame_Put.f, rowB_length, if_neg c1, decide_eq_true c2]) jt
  rw [if_pos ⟨by omega, by omega⟩]
  refine Ev.congr (f := fun k => frame_Put.j0 k (rowB b) false) (fun k => by rw [frame_Put.f, rowB_length, if_neg c1, decide_eq_false c2]) ?_
  have e : IntKind.u64.wrap ((rowB b).length : Int) = ((b.length : Nat) : Int) := by rw [wu64, rowB_length]; omega
  have es : IntKind.u64.wrap ((fsum b : Nat) : Int) = ((fsum b : Nat) : Int) := by have := fsum_lt b hb; rw [wu64]; omega
  have hp := pack_Put_nat [] b.length 2 (by decide)
  rw [show (rowB [] : List Int) = [] from rfl, List.nil_append, show cnt 2 = 2 from rfl] at hp
  refine Ev.step (f := fun _ => some (rowB (nb 2 b.length ++ nb 4 (fsum b) ++ b), 0)) (fun k => ?_) (Ev.now _)
  rw [frame_Put.j0, if_neg (by decide), e, hp, Option.bind_some, frame_sum_nat b hb (by omega), Option.bind_some, es, pack_Put_nat _ _ _ (by rw [nb_length]; decide), Option.bind_some, show cnt 4 = 4 from rfl, rowB_length, rowB_length, if_pos (by simp only [List.length_append, nb_length]; omega), ← rowB_append]
end
section
open Go.RowKit Go.Proofs.YtdpodjgggicaoaaW.PrintWords Go.Proofs.YtdpodjgggicaoaaW.PrintLast Go.Proofs.YtdpodjgggicaoaaW.PrintMore Go.Proofs.Ytdpodjgggicaoaa.H
theorem law06_fixed_ev : Ev (fun k => merkhetlaw06_fixed.f k) true := by
  have h := frame_Put_ev [97] (fun x hx => by simp at hx; omega)
  have e : framePut [97] = (nb 2 1 ++ nb 4 (fsum [97]) ++ [97], 0) := by unfold framePut; rw [if_pos (by decide)]; rfl
  rw [e] at h
  refine Ev.bind h (Ev.congr (fun k => ?_) (Ev.now true))
  have hl : (rowB (nb 2 1 ++ nb 4 (fsum [97]) ++ [97])).length = 7 := by rw [rowB_length]; simp only [List.length_append, nb_length]; rfl
  have r0 : rd (rowB (nb 2 1 ++ nb 4 (fsum [97]) ++ [97])) 0 = 1 := rfl
  have r1 : rd (rowB (nb 2 1 ++ nb 4 (fsum [97]) ++ [97])) 1 = 0 := rfl
  have r6 : rd (rowB (nb 2 1 ++ nb 4 (fsum [97]) ++ [97])) 6 = 97 := rfl
  simp only []
  rw [hl, if_pos trivial, if_pos (by decide), if_pos (by decide), r0, if_pos rfl, if_pos (by decide), r1, if_pos rfl, if_pos (by decide), r6]
  rfl
end
section
open Go.RowKit Go.Proofs.YtdpodjgggicaoaaW.PrintWords Go.Proofs.YtdpodjgggicaoaaW.PrintLast Go.Proofs.YtdpodjgggicaoaaW.PrintMore Go.Proofs.Ytdpodjgggicaoaa.H
theorem pack_Get_evf (b : List Nat) (at_ size : Int) (hb : isB b) (hl : b.length < 4611686018427387904) : Ev (fun k => pack_Get.f k (rowB b) at_ size) (getR b at_ (cnt size)) := ⟨9, fun k hk => pack_Get_nat k hk b at_ size hb hl⟩
theorem fr_wraps (L p n : Nat) (h : p + 6 ≤ L) (hL : L < 1000000000) (hn : n < 65536) :
    wrap64 ((L : Int) - (p : Int)) = ((L - p : Nat) : Int) ∧ wrap64 (((L - p : Nat) : Int) - 6) = ((L - p : Nat) : Int) - 6 ∧ wrap64 (n : Int) = (n : Int) ∧ wrap64 ((p : Int) + 6) = ((p + 6 : Nat) : Int) ∧ wrap64 (((p + 6 : Nat) : Int) + (n : Int)) = ((p + 6 + n : Nat) : Int) := by
  refine ⟨?_, ?_, ?_, ?_, ?_⟩ <;> unfold wrap64 <;> omega
theorem frame_Get_ev (b : List Nat) (at_ : Int) (hb : isB b) (hl : b.length < 1000000000) : Ev (fun k => frame_Get.f k (rowB b) at_) (rowB (frameGet b at_).1, (frameGet b at_).2) := by
  have jt : Ev (fun k => frame_Get.j0 k (rowB b) at_ true) (([] : List Int), (0 : Int), (5 : Int)) := Ev.step (f := fun _ => some ([], 0, 5)) (fun k => by rw [frame_Get.j0, if_pos rfl]) (Ev.now _)
  unfold frameGet
  by_cases c1 : at_ < 0
  · rw [if_pos (Or.inl c1)]
    exact Ev.congr (f := fun k => frame_Get.j0 k (rowB b) at_ true) (fun k => by rw [frame_Get.f, if_pos c1]) jt
  by_cases c2 : at_ ≥ (b.length : Int)
  · rw [if_pos (Or.inr c2)]
    exact Ev.congr (f := fun k => frame_Get.j0 k (rowB b) at_ true) (fun k => by rw [frame_Get.f, if_neg c1, rowB_length, decide_eq_true c2]) jt
  rw [if_neg (by omega)]
  refine Ev.congr (f := fun k => frame_Get.j0 k (rowB b) at_ false) (fun k => by rw [frame_Get.f, if_neg c1, rowB_length, decide_eq_false c2]) ?_
  obtain ⟨p, rfl⟩ := Int.eq_ofNat_of_zero_le (show 0 ≤ at_ by omega)
  rw [Int.toNat_natCast]
  have hs := isB_drop hb p
  have hsl : (b.drop p).length = b.length - p := List.length_drop
  have hw2 : wrap64 ((p : Int) + 2) = ((p + 2 : Nat) : Int) := by rw [w64f _ (by omega) (by omega)]; omega
  have g2 := pack_Get_evf b (p : Int) 2 hb (by omega)
  have g4 := pack_Get_evf b ((p + 2 : Nat) : Int) 4 hb (by omega)
  rw [show cnt 2 = 2 from rfl] at g2
  rw [show cnt 4 = 4 from rfl] at g4
  refine Ev.step (f := fun k => (pack_Get.f k (rowB b) (p : Int) 2).bind fun bt138 => ((pack_Get.f k (rowB b) ((p + 2 : Nat) : Int) 4).bind fun bt140 => (if bt140.2 = true then (if bt138.1 = 0 then (frame_Get.j1 k (rowB b) (p : Int) bt138.1 bt140.1 true) else (frame_Get.j1 k (rowB b) (p : Int) bt138.1 bt140.1 (decide (bt138.1 > 2406)))) else (some (([] : List Int), 0, 2))))) (fun k => by rw [frame_Get.j0, if_neg (by decide), hw2]) ?_
  refine Ev.bind g2 (Ev.bind g4 ?_)
  unfold frameAt
  by_cases c3 : (b.drop p).length < 6
  · rw [if_pos c3]
    have : (getR b ((p + 2 : Nat) : Int) 4).2 = false := by unfold getR getN; rw [if_neg (by omega)]
    exact Ev.congr (f := fun _ => some ([], 0, 2)) (fun k => if_neg (by rw [this]; decide)) (Ev.now _)
  rw [if_neg c3]
  have r2 : getR b (p : Int) 2 = (((num ((b.drop p).take 2) : Nat) : Int), true) := by unfold getR getN; rw [if_pos (by omega), Int.toNat_natCast]
  have r4 : getR b ((p + 2 : Nat) : Int) 4 = (((num (((b.drop p).drop 2).take 4) : Nat) : Int), true) := by unfold getR getN; rw [if_pos (by omega), Int.toNat_natCast, List.drop_drop]
  rw [r2, r4]
  have hn : num ((b.drop p).take 2) < 65536 := by
    refine Nat.lt_of_lt_of_le (num_lt _ (isB_take hs 2)) ?_
    exact Nat.le_trans (Nat.pow_le_pow_right (by decide) (List.length_take_le 2 _)) (by decide)
  have ht : (b.take (p + 6 + num ((b.drop p).take 2))).drop (p + 6) = ((b.drop p).drop 6).take (num ((b.drop p).take 2)) := by
    rw [List.drop_take, List.drop_drop]; congr 1; omega
  generalize hnn : num ((b.drop p).take 2) = n at hn ht ⊢
  generalize num (((b.drop p).drop 2).take 4) = own
  have jf : Ev (fun k => frame_Get.j1 k (rowB b) (p : Int) (n : Int) (own : Int) true) (([] : List Int), (0 : Int), (3 : Int)) := Ev.step (f := fun _ => some ([], 0, 3)) (fun k => by rw [frame_Get.j1, if_pos rfl]) (Ev.now _)
  by_cases c4 : n = 0
  · rw [if_pos c4]
    exact Ev.congr (f := fun k => frame_Get.j1 k (rowB b) (p : Int) (n : Int) (own : Int) true) (fun k => (if_pos rfl).trans (if_pos (by show ((n : Nat) : Int) = 0; omega))) jf
  rw [if_neg c4]
  by_cases c5 : 2406 < n
  · rw [if_pos c5]
    exact Ev.congr (f := fun k => frame_Get.j1 k (rowB b) (p : Int) (n : Int) (own : Int) true) (fun k => (if_pos rfl).trans ((if_neg (by show ¬ ((n : Nat) : Int) = 0; omega)).trans (by rw [decide_eq_true (by show ((n : Nat) : Int) > 2406; omega)]))) jf
  rw [if_neg c5]
  refine Ev.congr (f := fun k => frame_Get.j1 k (rowB b) (p : Int) (n : Int) (own : Int) false) (fun k => (if_pos rfl).trans ((if_neg (by show ¬ ((n : Nat) : Int) = 0; omega)).trans (by rw [decide_eq_false (by show ¬ ((n : Nat) : Int) > 2406; omega)]))) ?_
  have E := Aside0.mk (fr_wraps b.length p n (by omega) (by omega) (by omega))
  by_cases c6 : (b.drop p).length < 6 + n
  · rw [if_pos c6]
    exact Ev.step (f := fun _ => some ([], 0, 2)) (fun k => by rw [frame_Get.j1, if_neg (by decide), rowB_length, E.out.1, E.out.2.1, E.out.2.2.1, if_pos (by omega)]) (Ev.now _)
  rw [if_neg c6]
  have hbl : (((b.drop p).drop 6).take n).length = n := by rw [List.length_take, List.length_drop]; omega
  have hbB : isB (((b.drop p).drop 6).take n) := isB_take (isB_drop hs 6) n
  have es : IntKind.u64.wrap ((fsum (((b.drop p).drop 6).take n) : Nat) : Int) = ((fsum (((b.drop p).drop 6).take n) : Nat) : Int) := by have := fsum_lt _ hbB; rw [wu64]; omega
  have hstep : ∀ k, frame_Get.j1 (k + 1) (rowB b) (p : Int) (n : Int) (own : Int) false = if ((own : Nat) : Int) = ((fsum (((b.drop p).drop 6).take n) : Nat) : Int) then some (rowB (((b.drop p).drop 6).take n), ((p + 6 + n : Nat) : Int), 0) else some ([], 0, 8) := fun k => by
    rw [frame_Get.j1, if_neg (by decide), rowB_length, E.out.1, E.out.2.1, E.out.2.2.1, if_neg (by omega), E.out.2.2.2.1, if_pos (by omega), E.out.2.2.2.2, if_pos (by omega), if_pos (by omega), Int.toNat_natCast, Int.toNat_natCast, rowB_take, rowB_drop, ht, clone_nat _ (by omega), Option.bind_some, frame_sum_nat _ hbB (by omega), Option.bind_some, es]
  by_cases c7 : own ≠ fsum (((b.drop p).drop 6).take n)
  · rw [if_pos c7]
    exact Ev.step (f := fun _ => some ([], 0, 8)) (fun k => by rw [hstep, if_neg (by omega)]) (Ev.now _)
  · rw [if_neg c7]
    refine Ev.step (f := fun _ => some (rowB (((b.drop p).drop 6).take n), ((p + 6 + n : Nat) : Int), 0)) (fun k => by rw [hstep, if_pos (by omega)]) (ev_eqf (Ev.now _) ?_)
    simp only [hbl]
    congr 2
end
section
open Go.RowKit Go.Proofs.YtdpodjgggicaoaaW.PrintWords Go.Proofs.YtdpodjgggicaoaaW.PrintLast Go.Proofs.YtdpodjgggicaoaaW.PrintMore Go.Proofs.Ytdpodjgggicaoaa.H
theorem ref2_Put_evf (n : Nat) (size : Int) (hn : n < 18446744073709551616) : Ev (fun k => merkhetref02_Put.f k (n : Int) size) (txt (nb (cnt size) n)) := ⟨9, fun k hk => ref_Put_nat k hk n size hn⟩
theorem ref_Sum_ev (m : List Nat) (hm : isB m) (hn : m.length < 9223372036854775807) : Ev (fun k => merkhetref03_Sum.f k (txt m)) ((sumFrom 0 m : Nat) : Int) := by
  exact Ev.of (fun k => merkhetref03_Sum.mono _ k) (ref_Sum_nat m hm hn)
theorem ref_fPut_ev (b : List Nat) (hb : isB b) (hl : b.length < 1000000000) : Ev (fun k => merkhetref06_Put.f k (txt b)) (txt (framePut b).1, (framePut b).2) := by
  have jt : Ev (fun k => merkhetref06_Put.j0 k (txt b) true) ((⟨#[]⟩ : ByteArray), (1 : Int)) := Ev.step (f := fun _ => some (⟨#[]⟩, 1)) (fun k => by rw [merkhetref06_Put.j0, if_pos rfl]) (Ev.now _)
  unfold framePut
  by_cases c1 : (b.length : Int) = 0
  · rw [if_neg (by omega)]
    exact Ev.congr (f := fun k => merkhetref06_Put.j0 k (txt b) true) (fun k => by rw [merkhetref06_Put.f, txt_size, if_pos c1]) jt
  by_cases c2 : (b.length : Int) > 2406
  · rw [if_neg (by omega)]
    exact Ev.congr (f := fun k => merkhetref06_Put.j0 k (txt b) true) (fun k => by rw [merkhetref06_Put.f, txt_size, if_neg c1, decide_eq_true c2]) jt
  rw [if_pos ⟨by omega, by omega⟩]
  refine Ev.congr (f := fun k => merkhetref06_Put.j0 k (txt b) false) (fun k => by rw [merkhetref06_Put.f, txt_size, if_neg c1, decide_eq_false c2]) ?_
  have e : IntKind.u64.wrap ((txt b).size : Int) = ((b.length : Nat) : Int) := by rw [wu64, txt_size]; omega
  have hlt := fsum_lt b hb
  have es : IntKind.u64.wrap ((fsum b : Nat) : Int) = ((fsum b : Nat) : Int) := by rw [wu64]; omega
  have h2 := ref2_Put_evf b.length 2 (by omega)
  have h4 := ref2_Put_evf (fsum b) 4 (by omega)
  rw [show cnt 2 = 2 from rfl] at h2
  rw [show cnt 4 = 4 from rfl] at h4
  have hs := ref_Sum_ev (nb 2 b.length ++ b) (isB_append (nb_isB _ _) hb) (by rw [List.length_append, nb_length]; omega)
  refine Ev.step (f := fun k => (merkhetref02_Put.f k ((b.length : Nat) : Int) 2).bind fun t132 => (if t132.size + (txt b).size ≤ 9223372036854775807 then ((merkhetref03_Sum.f k (t132 ++ txt b)).bind fun t133 => ((merkhetref02_Put.f k (IntKind.u64.wrap (t133)) 4).bind fun t134 => (if t132.size + t134.size ≤ 9223372036854775807 then (if (t132 ++ t134).size + (txt b).size ≤ 9223372036854775807 then (some ((t132 ++ t134) ++ txt b, 0)) else (none)) else (none)))) else (none))) (fun k => by rw [merkhetref06_Put.j0, if_neg (by decide), e]) ?_
  refine Ev.bind h2 (Ev.congr (fun k => if_pos (by rw [txt_size, txt_size, nb_length]; omega)) ?_)
  rw [txt_append]
  refine Ev.bind hs ?_
  rw [show ((sumFrom 0 (nb 2 b.length ++ b) : Nat) : Int) = ((fsum b : Nat) : Int) from rfl, es]
  refine Ev.bind h4 (Ev.congr (fun k => if_pos (by rw [txt_size, txt_size, nb_length, nb_length]; decide)) (Ev.congr (fun k => if_pos (by rw [txt_append, txt_size, txt_size, List.length_append, nb_length, nb_length]; omega)) (ev_eqf (Ev.now _) ?_)))
  rw [txt_append, txt_append]
end
section
open Go.RowKit Go.Proofs.YtdpodjgggicaoaaW.PrintWords Go.Proofs.YtdpodjgggicaoaaW.PrintLast Go.Proofs.YtdpodjgggicaoaaW.PrintMore Go.Proofs.Ytdpodjgggicaoaa.H
theorem fput_take (s : List Nat) (hs : isB s) (h1 : 1 ≤ num (s.take 2)) (h2 : num (s.take 2) ≤ 2406) (hl : 6 + num (s.take 2) ≤ s.length) :
    (framePut ((s.drop 6).take (num (s.take 2)))).1 = s.take (6 + num (s.take 2)) ↔ num ((s.drop 2).take 4) = fsum ((s.drop 6).take (num (s.take 2))) := by
  have l2 : (s.take 2).length = 2 := by rw [List.length_take]; omega
  have l4 : ((s.drop 2).take 4).length = 4 := by rw [List.length_take, List.length_drop]; omega
  have xl : ((s.drop 6).take (num (s.take 2))).length = num (s.take 2) := by rw [List.length_take, List.length_drop]; omega
  have e6 : s.take (6 + num (s.take 2)) = s.take 2 ++ (s.drop 2).take 4 ++ (s.drop 6).take (num (s.take 2)) := by
    rw [take_split s 6, show s.take 6 = s.take (2 + 4) from rfl, take_split s 2 4]
  have n2 : nb 2 (num (s.take 2)) = s.take 2 := by
    have := nb_num (s.take 2) (isB_take hs 2)
    rwa [l2] at this
  have n4 : nb 4 (num ((s.drop 2).take 4)) = (s.drop 2).take 4 := by
    have := nb_num ((s.drop 2).take 4) (isB_take (isB_drop hs 2) 4)
    rwa [l4] at this
  have hx : isB ((s.drop 6).take (num (s.take 2))) := isB_take (isB_drop hs 6) _
  have hf := fsum_lt _ hx
  rw [e6]
  unfold framePut
  rw [xl, if_pos ⟨h1, h2⟩, n2]
  generalize (s.drop 6).take (num (s.take 2)) = x at *
  constructor
  · intro h
    have h3 := List.append_inj_left h (by simp only [List.length_append, nb_length, l4])
    have h4 := List.append_inj_right h3 rfl
    rw [← h4, num_nb]
    have e : (256 : Nat) ^ 4 = 4294967296 := by decide
    rw [e]; omega
  · intro h
    rw [← h, n4]
theorem ref_fGet_ev (b : List Nat) (at_ : Int) (hb : isB b) (hl : b.length < 1000000000) : Ev (fun k => merkhetref06_Get.f k (txt b) at_) (txt (frameGet b at_).1, (frameGet b at_).2) := by
  have none_ : Ev (fun k => merkhetref06_Get.j0 k (txt b) at_ true) ((⟨#[]⟩ : ByteArray), (0 : Int), (5 : Int)) := Ev.step (f := fun _ => some (⟨#[]⟩, 0, 5)) (fun k => by rw [merkhetref06_Get.j0, if_pos rfl]) (Ev.now _)
  have bad : ∀ (s : ByteArray) (x : Int), Ev (fun k => merkhetref06_Get.j1 k s at_ x true) ((⟨#[]⟩ : ByteArray), (0 : Int), (3 : Int)) := fun s x => Ev.step (f := fun _ => some (⟨#[]⟩, 0, 3)) (fun k => by rw [merkhetref06_Get.j1, if_pos rfl]) (Ev.now _)
  unfold frameGet
  by_cases c1 : at_ < 0
  · rw [if_pos (Or.inl c1)]
    exact Ev.congr (fun k => if_pos c1) none_
  by_cases c2 : at_ ≥ (b.length : Int)
  · rw [if_pos (Or.inr c2)]
    exact Ev.congr (f := fun k => merkhetref06_Get.j0 k (txt b) at_ true) (fun k => by rw [merkhetref06_Get.f, if_neg c1, txt_size, decide_eq_true c2]) none_
  rw [if_neg (by omega)]
  obtain ⟨p, rfl⟩ := Int.eq_ofNat_of_zero_le (show 0 ≤ at_ by omega)
  refine Ev.congr (f := fun k => merkhetref06_Get.j0 k (txt b) (p : Int) false) (fun k => by rw [merkhetref06_Get.f, if_neg c1, txt_size, decide_eq_false c2]) ?_
  rw [Int.toNat_natCast]
  have hs := isB_drop hb p
  have sl : (b.drop p).length = b.length - p := List.length_drop ..
  have ex : (txt b).extract p b.length = txt (b.drop p) := by rw [txt_extract, List.take_of_length_le (Nat.le_refl _)]
  generalize b.drop p = s at *
  unfold frameAt
  by_cases c3 : s.length < 6
  · rw [if_pos c3]
    exact Ev.step (f := fun _ => some ((⟨#[]⟩ : ByteArray), 0, 2)) (fun k => by rw [merkhetref06_Get.j0, if_neg (by decide), if_pos (by omega), txt_size, if_pos (by omega), Int.toNat_natCast, ex, txt_size, if_pos (by omega)]) (Ev.now _)
  rw [if_neg c3]
  have g : Ev (fun k => merkhetref02_Get.f k (txt s) 0 2) (((num (s.take 2) : Nat) : Int), true) := by
    refine ev_eqf ⟨10, fun k hk => ref_Get_nat k hk s 0 2 hs (by omega)⟩ ?_
    unfold getR getN
    rw [show cnt 2 = 2 from rfl, if_pos (by omega)]
    rfl
  refine Ev.step (f := fun k => (merkhetref02_Get.f k (txt s) 0 2).bind fun bt252 => (if bt252.1 = 0 then (merkhetref06_Get.j1 k (txt s) (p : Int) bt252.1 true) else (merkhetref06_Get.j1 k (txt s) (p : Int) bt252.1 (decide (bt252.1 > 2406))))) (fun k => by rw [merkhetref06_Get.j0, if_neg (by decide), if_pos (by omega), txt_size, if_pos (by omega), Int.toNat_natCast, ex, txt_size, if_neg (by omega)]) ?_
  refine Ev.bind g ?_
  have key := fput_take s hs
  have hx : isB ((s.drop 6).take (num (s.take 2))) := isB_take (isB_drop hs 6) _
  have xl : 6 + num (s.take 2) ≤ s.length → ((s.drop 6).take (num (s.take 2))).length = num (s.take 2) := fun h => by rw [List.length_take, List.length_drop]; omega
  by_cases c4 : num (s.take 2) = 0
  · rw [if_pos c4]
    exact Ev.congr (fun k => if_pos (by simp only []; omega)) (bad _ _)
  rw [if_neg c4]
  by_cases c5 : 2406 < num (s.take 2)
  · rw [if_pos c5]
    exact Ev.congr (f := fun k => merkhetref06_Get.j1 k (txt s) (p : Int) ((num (s.take 2) : Nat) : Int) true) (fun k => by simp only []; rw [if_neg (by omega), decide_eq_true (show ((num (s.take 2) : Nat) : Int) > 2406 by omega)]) (bad _ _)
  rw [if_neg c5]
  refine Ev.congr (f := fun k => merkhetref06_Get.j1 k (txt s) (p : Int) ((num (s.take 2) : Nat) : Int) false) (fun k => by simp only []; rw [if_neg (by omega), decide_eq_false (show ¬ ((num (s.take 2) : Nat) : Int) > 2406 by omega)]) ?_
  have e0 : (txt s).extract 0 (6 + num (s.take 2)) = txt (s.take (6 + num (s.take 2))) := by rw [txt_extract, List.drop_zero]
  have e1 : (txt s).extract 6 (6 + num (s.take 2)) = txt ((s.drop 6).take (num (s.take 2))) := by rw [txt_extract, List.drop_take]; congr 2; omega
  generalize num (s.take 2) = n at *
  have w1 : wrap64 (n : Int) = (n : Int) := w64f _ (by omega) (by omega)
  have w2 : wrap64 (6 + (n : Int)) = ((6 + n : Nat) : Int) := by rw [w64f _ (by omega) (by omega)]; omega
  by_cases c6 : s.length < 6 + n
  · rw [if_pos c6]
    exact Ev.step (f := fun _ => some ((⟨#[]⟩ : ByteArray), 0, 2)) (fun k => by rw [merkhetref06_Get.j1, if_neg (by decide), w1, w2, txt_size, if_pos (by omega)]) (Ev.now _)
  rw [if_neg c6]
  have k2 := key (by omega) (by omega) (by omega)
  have x2 := xl (by omega)
  clear key xl
  have w3 : wrap64 ((p : Int) + 6) = (p : Int) + 6 := w64f _ (by omega) (by omega)
  have w4 : wrap64 ((p : Int) + 6 + (n : Int)) = (p : Int) + 6 + (n : Int) := w64f _ (by omega) (by omega)
  have hput := ref_fPut_ev ((s.drop 6).take n) hx (by omega)
  have hpb := framePut_isB hx
  have hst := isB_take hs (6 + n)
  generalize (s.drop 6).take n = x at *
  refine Ev.step (f := fun k => (merkhetref06_Put.f k (txt x)).bind fun bt254 => (if bt254.1.toList = (txt (s.take (6 + n))).toList then (some (txt x, (p : Int) + 6 + (n : Int), 0)) else (some ((⟨#[]⟩ : ByteArray), 0, 8)))) (fun k => by rw [merkhetref06_Get.j1, if_neg (by decide), w1, w2, txt_size, if_neg (by omega), if_pos (by omega), if_pos (by omega), Int.toNat_natCast, e1, e0, w3, w4]; simp only [show (0 : Int) ≤ ((6 + n : Nat) : Int) from by omega, if_true]) ?_
  refine Ev.bind hput ?_
  by_cases c7 : num ((s.drop 2).take 4) = fsum x
  · rw [if_neg (not_not_intro c7), ← x2]
    exact Ev.congr (fun k => if_pos (by rw [x2, k2.2 c7])) (Ev.now _)
  · rw [if_pos c7]
    refine Ev.congr (fun k => if_neg (fun h => c7 (k2.1 ?_))) (Ev.now _)
    rw [txt_toList, txt_toList] at h
    exact u8_inj hpb hst h
end
section
open Go.RowKit Go.Proofs.YtdpodjgggicaoaaW.PrintWords Go.Proofs.YtdpodjgggicaoaaW.PrintLast Go.Proofs.YtdpodjgggicaoaaW.PrintMore Go.Proofs.Ytdpodjgggicaoaa.H
def pairR (x : List Nat × Nat) : List Int × Int := (rowB x.1, (x.2 : Int))
theorem frame_All_go_ev (b : List Nat) (hb : isB b) (hl : b.length < 1000000000) : ∀ (d c p : Nat), b.length - p < d → Ev (fun k => frame_All_go k (rowB b) c (p : Int)) ((allG c b p).1.map pairR, (allG c b p).2) := by
  intro d
  induction d with
  | zero => intro c p h; exact absurd h (Nat.not_lt_zero _)
  | succ d ih =>
    intro c p h
    cases c with
    | zero => exact Ev.now _
    | succ c =>
      refine Ev.congr (f := fun k => (frame_Get.f k (rowB b) (p : Int)).bind fun g => if g.2.2 = 0 then (frame_All_go k (rowB b) c g.2.1).bind fun r => some ((g.1, g.2.1) :: r.1, r.2) else some ([], true)) (fun k => rfl) ?_
      refine Ev.bind (frame_Get_ev b (p : Int) hb hl) ?_
      by_cases hp2 : b.length ≤ p
      · have e1 : frameGet b (p : Int) = ([], 0, 5) := by unfold frameGet; rw [if_pos (Or.inr (by omega))]
        have e2 : allG (c + 1) b p = ([], true) := by rw [allG, List.drop_eq_nil_of_le hp2, frameAt_nil]
        rw [e1, e2]
        exact Ev.congr (fun k => if_neg (show ¬ ((5 : Int) = 0) by decide)) (Ev.now _)
      · cases hf : frameAt (b.drop p) with
        | error e =>
          have e1 : frameGet b (p : Int) = ([], 0, e) := by unfold frameGet; rw [if_neg (by omega), Int.toNat_natCast, hf]
          have e2 : allG (c + 1) b p = ([], true) := by rw [allG, hf]
          rw [e1, e2]
          exact Ev.congr (fun k => if_neg (show ¬ (e = 0) from frameAt_e0 hf)) (Ev.now _)
        | ok x =>
          have e1 : frameGet b (p : Int) = (x, (p : Int) + 6 + (x.length : Int), 0) := by unfold frameGet; rw [if_neg (by omega), Int.toNat_natCast, hf]
          have e2 : allG (c + 1) b p = ((x, p + 6 + x.length) :: (allG c b (p + 6 + x.length)).1, (allG c b (p + 6 + x.length)).2) := by rw [allG, hf]
          rw [e1, e2, show (p : Int) + 6 + (x.length : Int) = ((p + 6 + x.length : Nat) : Int) by omega]
          exact Ev.congr (fun k => if_pos rfl) (Ev.bind (ih c (p + 6 + x.length) (by omega)) (Ev.now _))
theorem allG_last : ∀ (c : Nat) (b : List Nat) (p : Nat), frame_All_last (p : Int) ((allG c b p).1.map pairR) = ((allF c b p).2 : Int) := by
  intro c
  induction c with
  | zero => intro b p; rfl
  | succ c ih =>
    intro b p
    rw [allG, allF]
    cases hf : frameAt (b.drop p) with
    | error e => rfl
    | ok y =>
      simp only [List.map_cons, frame_All_last, pairR]
      exact ih b _
theorem frame_All_ev (b : List Nat) (hb : isB b) (hl : b.length < 1000000) (at_ most : Int) : Ev (fun k => frame_All.f k (rowB b) at_ most) ((allA b at_ most).1.map rowB, (allA b at_ most).2) := by
  unfold frame_All.f allA
  by_cases h1 : most < 1
  · rw [if_pos (Or.inl h1)]
    exact Ev.congr (fun k => if_pos h1) (Ev.now _)
  obtain ⟨c, hc⟩ := Nat.exists_eq_succ_of_ne_zero (show most.toNat ≠ 0 by omega)
  refine Ev.congr (fun k => if_neg h1) ?_
  by_cases h2 : at_ < 0
  · rw [if_pos (Or.inr h2), hc]
    have g : Ev (fun k => frame_All_go k (rowB b) (c + 1) at_) (([] : List (List Int × Int)), true) := by
      refine Ev.congr (f := fun k => (frame_Get.f k (rowB b) at_).bind fun g => if g.2.2 = 0 then (frame_All_go k (rowB b) c g.2.1).bind fun r => some ((g.1, g.2.1) :: r.1, r.2) else some ([], true)) (fun k => rfl) ?_
      refine Ev.bind (frame_Get_ev b at_ hb (by omega)) ?_
      have e1 : frameGet b at_ = ([], 0, 5) := by unfold frameGet; rw [if_pos (Or.inl h2)]
      rw [e1]
      exact Ev.congr (fun k => if_neg (show ¬ ((5 : Int) = 0) by decide)) (Ev.now _)
    exact Ev.bind g (Ev.congr (fun k => if_pos (Nat.zero_le _)) (Ev.now _))
  · rw [if_neg (by omega)]
    obtain ⟨p, rfl⟩ := Int.eq_ofNat_of_zero_le (show 0 ≤ at_ by omega)
    rw [Int.toNat_natCast]
    refine Ev.bind (frame_All_go_ev b hb (by omega) (b.length - p + 1) most.toNat p (by omega)) ?_
    have hs := (allF_small most.toNat b p hb).1
    have hm : ((allG most.toNat b p).1.map pairR).map (·.1) = (allF most.toNat b p).1.map rowB := by
      rw [← allG_allF, List.map_map, List.map_map]; rfl
    have hlen : ((allG most.toNat b p).1.map pairR).length = (allF most.toNat b p).1.length := by
      rw [← allG_allF, List.length_map, List.length_map]
    refine Ev.congr (fun k => if_pos (by rw [hlen]; omega)) ?_
    rw [hm, allG_last]
    exact Ev.now _
end
section
open Go.RowKit Go.Proofs.YtdpodjgggicaoaaW.PrintWords Go.Proofs.YtdpodjgggicaoaaW.PrintLast Go.Proofs.YtdpodjgggicaoaaW.PrintMore Go.Proofs.Ytdpodjgggicaoaa.H
theorem ref_fAll_l0g (b : List Nat) (hb : isB b) (hl : b.length < 1000000) (most : Nat) : ∀ (d c : Nat) (acc : List (List Nat)) (p : Nat), acc.length + c = most → b.length - p < d → acc.length + (b.length - p) ≤ 1000000 →
    Ev (fun k => merkhetref06_All.l0 k (txt b) (p : Int) (most : Int) (acc.map txt)) ((acc ++ (allF c b p).1).map txt, ((allF c b p).2 : Int)) := by
  intro d
  induction d with
  | zero => intro c acc p h h2; exact absurd h2 (Nat.not_lt_zero _)
  | succ d ih =>
    intro c acc p h hd hs
    cases c with
    | zero =>
      refine Ev.step (f := fun _ => some (acc.map txt, (p : Int))) (fun k => by rw [merkhetref06_All.l0, if_neg (by rw [List.length_map]; omega)]) ?_
      refine ev_eqf (Ev.now _) ?_
      simp only [allF, List.append_nil]
    | succ c =>
      have hlt : ((acc.map txt).length : Int) < (most : Int) := by rw [List.length_map]; omega
      have hlim : (acc.map txt).length < 8796093022208 := by rw [List.length_map]; omega
      have fg := ref_fGet_ev b (p : Int) hb (by omega)
      have stop : Ev (fun _ : Nat => some (acc.map txt, (p : Int))) ((acc ++ ([] : List (List Nat))).map txt, (p : Int)) := ev_eqf (Ev.now _) (by simp only [List.append_nil])
      refine Ev.step (f := fun k => (merkhetref06_Get.f k (txt b) (p : Int)).bind fun bt259 => (if bt259.2.2 = 0 then (merkhetref06_All.l0 k (txt b) bt259.2.1 (most : Int) ((acc.map txt) ++ [bt259.1])) else (some (acc.map txt, (p : Int))))) (fun k => by rw [merkhetref06_All.l0, if_pos hlt]; simp only [if_pos hlim]) ?_
      refine Ev.bind fg ?_
      by_cases hp2 : b.length ≤ p
      · have e1 : frameGet b (p : Int) = ([], 0, 5) := by unfold frameGet; rw [if_pos (Or.inr (by omega))]
        have e2 : allF (c + 1) b p = ([], p) := by
          rw [allF, List.drop_eq_nil_of_le hp2]
          rfl
        rw [e1, e2]
        exact Ev.congr (fun k => if_neg (show ¬ ((5 : Int) = 0) by decide)) stop
      · cases hf : frameAt (b.drop p) with
        | error e =>
          have e1 : frameGet b (p : Int) = ([], 0, e) := by unfold frameGet; rw [if_neg (by omega), Int.toNat_natCast, hf]
          have e2 : allF (c + 1) b p = ([], p) := by rw [allF, hf]
          rw [e1, e2]
          exact Ev.congr (fun k => if_neg (show ¬ (e = 0) from frameAt_e0 hf)) stop
        | ok x =>
          have e1 : frameGet b (p : Int) = (x, (p : Int) + 6 + (x.length : Int), 0) := by unfold frameGet; rw [if_neg (by omega), Int.toNat_natCast, hf]
          have e2 : allF (c + 1) b p = (x :: (allF c b (p + 6 + x.length)).1, (allF c b (p + 6 + x.length)).2) := by rw [allF, hf]
          rw [e1, e2]
          have r := ih c (acc ++ [x]) (p + 6 + x.length) (by rw [List.length_append]; simp only [List.length_cons, List.length_nil]; omega) (by omega) (by rw [List.length_append]; simp only [List.length_cons, List.length_nil]; omega)
          rw [List.append_assoc, List.map_append, show [x].map txt = [txt x] from rfl, show ((p + 6 + x.length : Nat) : Int) = (p : Int) + 6 + (x.length : Int) by omega] at r
          exact Ev.congr (fun k => if_pos rfl) r
theorem ref_fAllA_ev (b : List Nat) (hb : isB b) (hl : b.length < 1000000) (at_ most : Int) : Ev (fun k => merkhetref06_All.f k (txt b) at_ most) ((allA b at_ most).1.map txt, (allA b at_ most).2) := by
  unfold allA
  by_cases h1 : most < 1
  · rw [if_pos (Or.inl h1)]
    exact Ev.step (f := fun _ => some (([] : List ByteArray), at_)) (fun k => by rw [merkhetref06_All.f, merkhetref06_All.l0, if_neg (by simp only [List.length_nil]; omega)]) (Ev.now _)
  by_cases h2 : at_ < 0
  · rw [if_pos (Or.inr h2)]
    have e1 : frameGet b at_ = ([], 0, 5) := by unfold frameGet; rw [if_pos (Or.inl h2)]
    have fg := ref_fGet_ev b at_ hb (by omega)
    rw [e1] at fg
    refine Ev.step (f := fun k => (merkhetref06_Get.f k (txt b) at_).bind fun bt259 => (if bt259.2.2 = 0 then (merkhetref06_All.l0 k (txt b) bt259.2.1 most (([] : List ByteArray) ++ [bt259.1])) else (some (([] : List ByteArray), at_)))) (fun k => by rw [merkhetref06_All.f, merkhetref06_All.l0, if_pos (by simp only [List.length_nil]; omega)]; simp only [List.length_nil, if_pos (show 0 < 8796093022208 by decide)]) ?_
    refine Ev.bind fg ?_
    exact Ev.congr (fun k => if_neg (show ¬ ((5 : Int) = 0) by decide)) (Ev.now _)
  · rw [if_neg (by omega)]
    obtain ⟨p, rfl⟩ := Int.eq_ofNat_of_zero_le (show 0 ≤ at_ by omega)
    obtain ⟨m, rfl⟩ := Int.eq_ofNat_of_zero_le (show 0 ≤ most by omega)
    rw [Int.toNat_natCast, Int.toNat_natCast]
    exact ref_fAll_l0g b hb hl m (b.length - p + 1) m [] p (by simp) (by omega) (by simp only [List.length_nil]; omega)
end
section
open Go.RowKit Go.Proofs.YtdpodjgggicaoaaW.PrintWords Go.Proofs.YtdpodjgggicaoaaW.PrintLast Go.Proofs.YtdpodjgggicaoaaW.PrintMore Go.Proofs.Ytdpodjgggicaoaa.H
theorem Same_l0 (l : List (List Nat)) (hl : l.length ≤ 1000) : ∀ (d i : Nat), i + d = l.length → Ev (fun k => merkhetlaw06_Same.l0 k (l.map rowB) (l.map txt) (l.length : Int) (i : Int)) true := by
  intro d
  induction d with
  | zero => intro i h; exact Ev.step (f := fun _ => some true) (fun k => by rw [merkhetlaw06_Same.l0, if_neg (by omega)]) (Ev.now _)
  | succ d ih =>
    intro i h
    have hi : i < l.length := by omega
    have e1 : rd_L1 (l.map rowB) (i : Int) = rowB l[i] := by
      simp [rd_L1, List.getD_eq_getElem?_getD, List.getElem?_eq_getElem hi]
    have e2 : rdOf ByteArray.empty (l.map txt) (i : Int) = txt l[i] := by
      simp [rdOf, List.getElem?_eq_getElem hi]
    have w1 : wrap64 ((i : Int) + 1) = ((i + 1 : Nat) : Int) := by rw [w64f _ (by omega) (by omega)]; omega
    exact Ev.step (f := fun k => merkhetlaw06_Same.l0 k (l.map rowB) (l.map txt) (l.length : Int) ((i + 1 : Nat) : Int)) (fun k => by rw [merkhetlaw06_Same.l0, if_pos (by omega), if_pos (by omega), if_pos (by rw [List.length_map]; omega), if_pos (by rw [List.length_map]; omega), e1, e2, strOf_rowB, if_pos rfl, w1]) (ih (i + 1) (by omega))
theorem Same_ev (l : List (List Nat)) (hl : l.length ≤ 1000) : Ev (fun k => merkhetlaw06_Same.f k (l.map rowB) (l.map txt)) true :=
  Ev.congr (f := fun k => merkhetlaw06_Same.l0 k (l.map rowB) (l.map txt) (l.length : Int) ((0 : Nat) : Int)) (fun k => by rw [merkhetlaw06_Same.f, if_pos (by rw [List.length_map, List.length_map]), List.length_map]; rfl) (Same_l0 l hl l.length 0 (by omega))
end
end Go.Proofs.Ytdpodjgggicaoaa.FG
