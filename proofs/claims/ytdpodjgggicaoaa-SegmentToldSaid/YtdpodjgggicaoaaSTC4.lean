/- Layer 2's functions, the program's, on bytes: they are the plain ones of H4. -/
import Derived.Test.YtdpodjgggicaoaaH4
import Derived.Test.YtdpodjgggicaoaaSTx1
import Derived.Laws.BitsAllLaws
set_option linter.unusedVariables false
set_option linter.unusedSimpArgs false
namespace Go.Proofs.Ytdpodjgggicaoaa.ST
open Go.RowKit Go.Proofs.YtdpodjgggicaoaaW.PrintWords Go.Proofs.YtdpodjgggicaoaaW.PrintLast Go.Proofs.YtdpodjgggicaoaaW.PrintMore Go.Proofs.Ytdpodjgggicaoaa.H

theorem w64 (x : Int) (h0 : 0 ≤ x) (h1 : x ≤ 9223372036854775807) : wrap64 x = x := by unfold wrap64; omega
theorem wu64 (x : Int) : IntKind.u64.wrap x = x % 18446744073709551616 := by simp [IntKind.wrap, IntKind.bits, IntKind.signed]
theorem cnt_mn (size : Int) : mn (mx size 0) 8 = (cnt size : Int) := by
  unfold mn mx cnt
  split <;> split <;> omega
theorem putNums_nb (k : Nat) : ∀ n : Nat, putNums k (n : Int) = rowB (nb k n) := by
  induction k with
  | zero => intro n; rfl
  | succ k ih =>
    intro n
    simp only [putNums, nb, rowB_cons]
    rw [show (n : Int) / 256 = ((n / 256 : Nat) : Int) by omega, ih, show (n : Int) % 256 = ((n % 256 : Nat) : Int) by omega]
theorem pack_Put_nat (b : List Nat) (n : Nat) (size : Int) (hl : b.length + 8 < 140737488355328) : pack_Put.f (rowB b) (n : Int) size = some (rowB (b ++ nb (cnt size) n)) := by
  unfold pack_Put.f
  rw [rowB_length, if_pos hl, cnt_mn, Int.toNat_natCast, putNums_nb, rowB_append]
/-! Get -/
theorem or_low (x y : Nat) (hx : x < 72057594037927936) (hy : y < 256) : Go.bits .or .u64 ((x * 256 : Nat) : Int) ((y : Nat) : Int) = ((x * 256 + y : Nat) : Int) := by
  rw [u64_or_nat (x * 256) y (by omega) (by omega), nat_join 8 (x * 256) y (by omega) (by omega)]
theorem getD_drop_take (b : List Nat) (p k : Nat) (h : p + k < b.length) : (b.drop p).take (k + 1) = (b.drop p).take k ++ [b.getD (p + k) 0] := by
  have hk : k < (b.drop p).length := by rw [List.length_drop]; omega
  rw [List.take_succ_eq_append_getElem hk, List.getElem_drop, List.getD_eq_getElem?_getD, List.getElem?_eq_getElem h]
  rfl
theorem pack_Get_loop (b : List Nat) (p k : Nat) (hb : isB b) (hk : k ≤ 8) (hp : p + k ≤ b.length) (hl : b.length < 4611686018427387904) : ∀ (d : Nat) (acc : List Nat), d ≤ k → (b.drop p).take k = (b.drop p).take d ++ acc →
    pack_Get.l0 (d + 1) (rowB b) (p : Int) ((num acc : Nat) : Int) ((d : Int) - 1) = some (((num ((b.drop p).take k) : Nat) : Int), true) := by
  intro d
  induction d with
  | zero =>
    intro acc hd h
    rw [pack_Get.l0, if_neg (by omega)]
    rw [h]; simp
  | succ d ih =>
    intro acc hd h
    have hacc : isB acc := isB_right (h ▸ isB_take (isB_drop hb p) k)
    have hal : acc.length = k - (d + 1) := by
      have := congrArg List.length h
      rw [List.length_append, List.length_take, List.length_take, List.length_drop] at this
      omega
    have hlt := num_lt acc hacc
    have hle : 256 ^ acc.length ≤ 72057594037927936 := by
      have : 256 ^ acc.length ≤ 256 ^ 7 := Nat.pow_le_pow_right (by decide) (by omega)
      exact Nat.le_trans this (by decide)
    have hx : num acc < 72057594037927936 := Nat.lt_of_lt_of_le hlt hle
    clear hlt hle
    have hw : wrap64 ((p : Int) + (((d + 1 : Nat) : Int) - 1)) = ((p + d : Nat) : Int) := by rw [w64 _ (by omega) (by omega)]; omega
    have hw2 : wrap64 ((((d + 1 : Nat) : Int) - 1) - 1) = (d : Int) - 1 := by unfold wrap64; omega
    have hy := getD_lt hb (p + d)
    have hu1 : IntKind.u64.wrap (((num acc : Nat) : Int) * 256) = ((num acc * 256 : Nat) : Int) := by rw [wu64]; omega
    have hu2 : IntKind.u64.wrap (((b.getD (p + d) 0 : Nat)) : Int) = ((b.getD (p + d) 0 : Nat) : Int) := by rw [wu64]; omega
    rw [pack_Get.l0, if_pos (by omega), hw, if_pos (by omega), rowB_length, if_pos (by omega), rd_rowB _ _ (by omega), hu1, hu2, or_low _ _ hx hy, hw2]
    have h2 := ih (b.getD (p + d) 0 :: acc) (by omega) (by rw [h, getD_drop_take b p d (by omega)]; simp)
    simp only [num] at h2
    rw [show num acc * 256 + b.getD (p + d) 0 = b.getD (p + d) 0 + 256 * num acc by omega]
    exact h2
theorem pack_there_nat (b : List Nat) (at_ : Int) (k : Nat) (hl : b.length < 4611686018427387904) : pack_there.f (rowB b) at_ (k : Int) = some (decide (0 ≤ at_ ∧ at_ + (k : Int) ≤ (b.length : Int))) := by
  unfold pack_there.f
  rw [rowB_length]
  by_cases h1 : at_ ≥ 0
  · rw [if_pos h1]
    by_cases h2 : at_ ≤ (b.length : Int)
    · rw [if_pos h2, w64 _ (by omega) (by omega)]
      congr 1
      rw [decide_eq_decide]
      omega
    · rw [if_neg h2, decide_eq_false (by omega)]
  · rw [if_neg h1, decide_eq_false (by omega)]
def getR (b : List Nat) (at_ : Int) (k : Nat) : Int × Bool := match getN b at_ k with
  | some n => ((n : Int), true)
  | none => (0, false)
theorem pack_Get_nat (K : Nat) (hK : 9 ≤ K) (b : List Nat) (at_ size : Int) (hb : isB b) (hl : b.length < 4611686018427387904) : pack_Get.f K (rowB b) at_ size = some (getR b at_ (cnt size)) := by
  have hc := cnt_le size
  refine at_rounds (pack_Get.mono (rowB b) at_ size) (show cnt size + 1 ≤ K by omega) ?_
  unfold pack_Get.f
  have h1 : pack_count.f size = some (cnt size : Int) := by unfold pack_count.f; rw [cnt_mn]
  rw [h1]
  simp only [Option.bind_some]
  rw [pack_there_nat b at_ (cnt size) hl]
  simp only [Option.bind_some]
  unfold getR getN
  by_cases h : 0 ≤ at_ ∧ at_ + (cnt size : Int) ≤ (b.length : Int)
  · rw [decide_eq_true h, if_pos rfl, if_pos h]
    obtain ⟨p, rfl⟩ := Int.eq_ofNat_of_zero_le h.1
    have hw : wrap64 ((cnt size : Int) - 1) = (cnt size : Int) - 1 := by unfold wrap64; omega
    have := pack_Get_loop b p (cnt size) hb hc (by omega) hl (cnt size) [] (Nat.le_refl _) (by simp)
    rw [hw]
    rw [Int.toNat_natCast]
    exact this
  · rw [decide_eq_false h, if_neg (by decide), if_neg h]
theorem clone_nat (b : List Nat) (hl : b.length < 70368744177664) : slices_Clone_byte_byte.f (rowB b) = some (rowB b) := by
  unfold slices_Clone_byte_byte.f; rw [rowB_length, if_pos (by omega)]
end Go.Proofs.Ytdpodjgggicaoaa.ST
