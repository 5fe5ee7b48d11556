/- The document's sum is the plain one of H1, too. -/
import Derived.Test.YtdpodjgggicaoaaSHC0
import Derived.Test.YtdpodjgggicaoaaSHx1
set_option linter.unusedVariables false
set_option linter.unusedSimpArgs false
namespace Go.Proofs.Ytdpodjgggicaoaa.SH
open Go.RowKit Go.Proofs.YtdpodjgggicaoaaW.PrintWords Go.Proofs.YtdpodjgggicaoaaW.PrintLast Go.Proofs.Ytdpodjgggicaoaa.H

theorem ones_xor (c : Nat) (h : c < 4294967296) : ones ^^^ c = ones - c := by
  have h1 := congrArg BitVec.toNat (BitVec.xor_allOnes (x := BitVec.ofNat 32 c))
  rw [BitVec.toNat_xor, BitVec.toNat_not, BitVec.toNat_allOnes, BitVec.toNat_ofNat, Nat.mod_eq_of_lt h] at h1
  rw [Nat.xor_comm]
  exact h1
theorem bt_nums (m : List Nat) (hm : ∀ x ∈ m, x < 256) (i : Nat) (hi : i < m.length) : bt (strOfNums (m.map (fun n : Nat => (n : Int)))) (i : Int) = ((m.getD i 0 : Nat) : Int) := by
  have hx := hm m[i] (List.getElem_mem hi)
  have hs : (strOfNums (m.map (fun n : Nat => (n : Int)))).size = m.length := by rw [strOfNums_size, List.length_map]
  rw [← bt_at _ _ (by rw [hs]; simpa using hi)]
  have : (strOfNums (m.map (fun n : Nat => (n : Int))))[(i : Int).toNat]'(by rw [hs]; simpa using hi) = UInt8.ofNat m[i] := by
    simp [strOfNums, ByteArray.getElem_eq_getElem_data]
  rw [this]
  simp [List.getD_eq_getElem?_getD, List.getElem?_eq_getElem hi, Nat.mod_eq_of_lt hx]
theorem tmod2 (n : Nat) : Int.tmod (n : Int) 2 = ((n % 2 : Nat) : Int) := by
  rw [Int.tmod_eq_emod_of_nonneg (by omega)]; omega
theorem tdiv2 (n : Nat) (h : n < 4294967296) : (Int.tdiv (n : Int) 2) % 4294967296 = ((n / 2 : Nat) : Int) := by
  rw [Int.tdiv_eq_ediv_of_nonneg (by omega)]; omega
theorem ref_bits (s : ByteArray) (K : Nat) (i : Int) (hi : 0 ≤ i) (hi2 : i < 9223372036854775807) : ∀ d : Nat, d ≤ 8 → ∀ c x : Nat, c < 4294967296 → x < 2 ^ d →
    merkhetref03_More.l1 (K + d + 1) s (c : Int) i (x : Int) (8 - (d : Int)) = merkhetref03_More.l0 K s ((csn d (c ^^^ x) : Nat) : Int) (i + 1) := by
  have hw : wrap64 (i + 1) = i + 1 := by unfold wrap64; omega
  intro d
  induction d with
  | zero =>
    intro _ c x hc hx
    obtain rfl : x = 0 := by omega
    simp only [merkhetref03_More.l1]
    rw [if_neg (by omega), hw]
    simp [csn]
  | succ d ih =>
    intro hd c x hc hx
    have hx32 : x < 4294967296 := Nat.lt_of_lt_of_le hx (Nat.pow_le_pow_right (by decide) (show d + 1 ≤ 32 by omega))
    have hx2 : x / 2 < 2 ^ d := by rw [Nat.pow_succ] at hx; omega
    have hw2 : wrap64 (8 - ((d + 1 : Nat) : Int) + 1) = 8 - (d : Int) := by unfold wrap64; omega
    rw [merkhetref03_More.l1, if_pos (by omega), tmod2, tmod2, tdiv2 c hc, tdiv2 x hx32, hw2]
    by_cases hp : c % 2 = x % 2
    · rw [if_pos (by omega), show K + (d + 1) = K + d + 1 by omega, ih (by omega) (c / 2) (x / 2) (by omega) hx2]
      congr 2
      simp only [csn]
      congr 1
      unfold cs
      rw [if_neg (by rw [xor_mod2]; omega), xor_div2]
    · rw [if_neg (by omega)]
      have h1 := u32_xor_nat (c / 2) poly (by omega) (by decide)
      rw [show ((poly : Nat) : Int) = 3988292384 from rfl] at h1
      rw [h1, show K + (d + 1) = K + d + 1 by omega, ih (by omega) (c / 2 ^^^ poly) (x / 2) (Nat.xor_lt_two_pow (n := 32) (by omega) (by decide)) hx2]
      congr 2
      simp only [csn]
      congr 1
      unfold cs
      rw [if_pos (by rw [xor_mod2]; omega), xor_div2, Nat.xor_assoc, Nat.xor_comm poly, ← Nat.xor_assoc]
theorem ref_loop (m : List Nat) (hm : ∀ x ∈ m, x < 256) (hn : m.length < 9223372036854775807) : ∀ d : Nat, ∀ (i c : Nat), i + d = m.length → c < 4294967296 →
    merkhetref03_More.l0 (10 * d + 1) (strOfNums (m.map (fun n : Nat => (n : Int)))) (c : Int) (i : Int) = some ((ones ^^^ crc c (m.drop i) : Nat) : Int) := by
  have hs : (strOfNums (m.map (fun n : Nat => (n : Int)))).size = m.length := by rw [strOfNums_size, List.length_map]
  intro d
  induction d with
  | zero =>
    intro i c hi hc
    simp only [merkhetref03_More.l0]
    rw [if_neg (by rw [hs]; omega), List.drop_of_length_le (by omega), show crc c [] = c from rfl, ones_xor c hc]
    congr 1
    unfold ones
    omega
  | succ d ih =>
    intro i c hi hc
    have hil : i < m.length := by omega
    have hx := hm m[i] (List.getElem_mem hil)
    rw [show 10 * (d + 1) + 1 = (10 * d + 1 + 8 + 1) + 1 by omega]
    simp only [merkhetref03_More.l0]
    rw [if_pos (by rw [hs]; omega), if_pos (by omega), bt_nums m hm i hil]
    have hg : m.getD i 0 = m[i] := by simp [List.getD_eq_getElem?_getD, List.getElem?_eq_getElem hil]
    rw [hg, show (((m[i] : Nat) : Int)) % 4294967296 = ((m[i] : Nat) : Int) by omega]
    have h := ref_bits (strOfNums (m.map (fun n : Nat => (n : Int)))) (10 * d + 1) (i : Int) (by omega) (by omega) 8 (by omega) c m[i] hc (by omega)
    rw [show (8 : Int) - ((8 : Nat) : Int) = 0 from rfl] at h
    rw [h, show ((i : Int) + 1) = ((i + 1 : Nat) : Int) from rfl, ih (i + 1) _ (by omega) (csn_lt 8 (Nat.xor_lt_two_pow (n := 32) hc (by omega)))]
    rw [List.drop_eq_getElem_cons hil]
    rfl
theorem ref_More_nat (a : Nat) (m : List Nat) (ha : a < 4294967296) (hm : ∀ x ∈ m, x < 256) (hn : m.length < 9223372036854775807) :
    merkhetref03_More.f (10 * m.length + 1) (a : Int) (strOfNums (m.map (fun n : Nat => (n : Int)))) = some ((sumFrom a m : Nat) : Int) := by
  unfold merkhetref03_More.f
  have h1 : ((4294967295 : Int) - (a : Int)) % 4294967296 = ((ones ^^^ a : Nat) : Int) := by rw [ones_xor a ha]; unfold ones; omega
  rw [h1]
  have := ref_loop m hm hn m.length 0 (ones ^^^ a) (by omega) (Nat.xor_lt_two_pow (n := 32) (by decide) (by omega))
  rw [List.drop_zero] at this
  exact this
theorem ref_Sum_nat (m : List Nat) (hm : ∀ x ∈ m, x < 256) (hn : m.length < 9223372036854775807) :
    merkhetref03_Sum.f (10 * m.length + 1) (strOfNums (m.map (fun n : Nat => (n : Int)))) = some ((sumFrom 0 m : Nat) : Int) := by
  unfold merkhetref03_Sum.f
  have := ref_More_nat 0 m (by decide) hm hn
  rw [show ((0 : Nat) : Int) = 0 from rfl] at this
  rw [this]; rfl
end Go.Proofs.Ytdpodjgggicaoaa.SH
