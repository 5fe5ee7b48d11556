/- A segment's head of which up to 32 bits in a row are changed. -/
import Derived.Test.YtdpodjgggicaoaaH10
import Derived.Test.YtdpodjgggicaoaaH27
set_option linter.unusedVariables false
namespace Go.Proofs.Ytdpodjgggicaoaa.H
theorem sum_ok_iff (b : List Nat) (hb : isB b) (hl : b.length = 14) : num ((b.drop 10).take 4) = sumFrom 0 (b.take 10) ↔ sumFrom 0 b = ones ^^^ csn 32 ones := by
  have hy : (b.drop 10).length = 4 := by rw [List.length_drop, hl]
  have ht : (b.drop 10).take 4 = b.drop 10 := List.take_of_length_le (by omega)
  have hc : crc (ones ^^^ 0) (b.take 10) < 2 ^ 32 := crc_lt _ (by decide) (isB_take hb 10)
  have hn : num (b.drop 10) < 2 ^ 32 := by
    have := num_lt (b.drop 10) (isB_drop hb 10)
    rw [hy] at this
    exact this
  have e1 : sumFrom 0 b = ones ^^^ csn 32 (crc (ones ^^^ 0) (b.take 10) ^^^ num (b.drop 10)) := by
    unfold sumFrom
    have : crc (ones ^^^ 0) b = crc (ones ^^^ 0) (b.take 10 ++ b.drop 10) := by rw [List.take_append_drop]
    rw [this, crc_append, crc_msg (b.drop 10), hy, msg_num _ (isB_drop hb 10)]
  rw [ht, e1]
  unfold sumFrom
  generalize crc (ones ^^^ 0) (b.take 10) = c at hc ⊢
  generalize num (b.drop 10) = t at hn ⊢
  have ho : ones < 2 ^ 32 := by decide
  constructor
  · intro h
    rw [h, Nat.xor_comm ones c, xor_self_left]
  · intro h
    have h2 := xor_inj h
    have h3 : csn 32 ((c ^^^ t) ^^^ ones) = 0 := by rw [csn_xor, h2, Nat.xor_self]
    have h4 : (c ^^^ t) ^^^ ones = 0 := by
      refine Classical.byContradiction fun h0 => csn_ne 32 (Nat.xor_lt_two_pow (Nat.xor_lt_two_pow hc hn) ho) h0 h3
    have h5 : c ^^^ t = ones := by
      have : (c ^^^ t) ^^^ ((c ^^^ t) ^^^ ones) = (c ^^^ t) ^^^ 0 := by rw [h4]
      rw [xor_self_left, Nat.xor_zero] at this
      exact this.symm
    rw [← h5, Nat.xor_comm (c ^^^ t) c, xor_self_left]
theorem seg_told (n q f d : Nat) (hn : n < 4294967296) (h1 : 1 ≤ q) (h2 : q ≤ 16) (mc : List Nat) (hmc : isB mc) (hl : mc.length = 14) (hf : f ≤ 112) (hd : d < 2 ^ 32) (hm : msg mc = msg (segHead n q) ^^^ d * 2 ^ f) :
    (d = 0 → mc = segHead n q) ∧ (d ≠ 0 → segBegin mc = (0, 0, [], 8) ∨ segBegin mc = (0, 0, [], 3)) := by
  have hB := segHead_isB n q
  have hBl := segHead_length n q
  constructor
  · intro h0
    refine num_inj hmc hB (by rw [hl, hBl]) ?_
    rw [msg_num _ hmc, msg_num _ hB, h0] at hm
    simpa using hm
  · intro h0
    have ht := sum_told (segHead n q) mc f d (by rw [hl, hBl]) hm (by rw [hBl]; omega) hd
    have hb := segBegin_head n q hn h1 h2
    have hok : sumFrom 0 (segHead n q) = ones ^^^ csn 32 ones := by
      refine (sum_ok_iff _ hB hBl).1 ?_
      refine Classical.byContradiction fun h => ?_
      unfold segBegin at hb
      rw [if_neg (by rw [hBl]; decide)] at hb
      split at hb
      · simp at hb
      · simp [h] at hb
    have hne : num ((mc.drop 10).take 4) ≠ sumFrom 0 (mc.take 10) := fun h => h0 (ht.1 (((sum_ok_iff mc hmc hl).1 h).trans hok.symm))
    unfold segBegin
    rw [if_neg (by rw [hl]; decide)]
    by_cases c1 : mc.take 4 ≠ segLetters
    · rw [if_pos c1]; exact Or.inr rfl
    · rw [if_neg c1, if_pos hne]; exact Or.inl rfl
end Go.Proofs.Ytdpodjgggicaoaa.H
