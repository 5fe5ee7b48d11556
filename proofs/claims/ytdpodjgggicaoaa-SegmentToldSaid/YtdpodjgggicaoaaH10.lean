/- A frame of whose sum alone, or of whose body alone, up to 32 bits in a row are changed. -/
import Derived.Test.YtdpodjgggicaoaaH9
set_option linter.unusedVariables false
namespace Go.Proofs.Ytdpodjgggicaoaa.H
open Go.RowKit Go.Proofs.YtdpodjgggicaoaaW.PrintWords
theorem mul_xor' (a b f : Nat) : (a ^^^ b) * 2 ^ f = a * 2 ^ f ^^^ b * 2 ^ f := by
  simp only [← Nat.shiftLeft_eq]
  exact Nat.shiftLeft_xor_distrib
theorem xor_div_pow (a b k : Nat) : (a ^^^ b) / 2 ^ k = a / 2 ^ k ^^^ b / 2 ^ k := by
  simp only [← Nat.shiftRight_eq_div_pow]
  exact Nat.shiftRight_xor_distrib
theorem msg_num (l : List Nat) (h : isB l) : msg l = num l := by
  induction l with
  | nil => rfl
  | cons x r ih =>
    have hx := h x (by simp)
    have h2 := xor_low (a := msg r) (b := x) (n := 8) hx
    simp only [msg, num]
    rw [Nat.xor_comm, h2, ih (fun y hy => h y (by simp [hy]))]
    omega
theorem num_take (l : List Nat) (h : isB l) (k : Nat) (hk : k ≤ l.length) : num (l.take k) = num l % 2 ^ (8 * k) := by
  have e : num l = num (l.take k) + 256 ^ k * num (l.drop k) := by
    have := num_append (l.take k) (l.drop k)
    rwa [List.take_append_drop, List.length_take, Nat.min_eq_left hk] at this
  have hlt := num_lt (l.take k) (isB_take h k)
  rw [List.length_take, Nat.min_eq_left hk] at hlt
  have hp : (256 : Nat) ^ k = 2 ^ (8 * k) := by rw [Nat.pow_mul]
  rw [← hp, e, Nat.add_mul_mod_self_left, Nat.mod_eq_of_lt hlt]
theorem num_drop (l : List Nat) (h : isB l) (k : Nat) (hk : k ≤ l.length) : num (l.drop k) = num l / 2 ^ (8 * k) := by
  have e : num l = num (l.take k) + 256 ^ k * num (l.drop k) := by
    have := num_append (l.take k) (l.drop k)
    rwa [List.take_append_drop, List.length_take, Nat.min_eq_left hk] at this
  have hlt := num_lt (l.take k) (isB_take h k)
  rw [List.length_take, Nat.min_eq_left hk] at hlt
  have hp : (256 : Nat) ^ k = 2 ^ (8 * k) := by rw [Nat.pow_mul]
  have hpos : 0 < (256 : Nat) ^ k := Nat.pow_pos (by decide)
  rw [← hp, e, Nat.add_mul_div_left _ _ hpos, Nat.div_eq_of_lt hlt, Nat.zero_add]
theorem num_inj {a b : List Nat} (ha : isB a) (hb : isB b) (hl : a.length = b.length) (h : num a = num b) : a = b := by
  rw [← nb_num a ha, ← nb_num b hb, hl, h]
theorem low_zero (d f k : Nat) (h : k ≤ f) : d * 2 ^ f % 2 ^ k = 0 := by
  obtain ⟨j, rfl⟩ : ∃ j, f = j + k := ⟨f - k, by omega⟩
  rw [Nat.pow_add, ← Nat.mul_assoc, Nat.mul_mod_left]
theorem div_shift (d f k : Nat) (h : k ≤ f) : d * 2 ^ f / 2 ^ k = d * 2 ^ (f - k) := by
  obtain ⟨j, rfl⟩ : ∃ j, f = j + k := ⟨f - k, by omega⟩
  rw [Nat.pow_add, ← Nat.mul_assoc, Nat.mul_div_cancel _ (Nat.pow_pos (by decide)), Nat.add_sub_cancel]
theorem xor_ne {a x : Nat} (h : x ≠ 0) : a ^^^ x ≠ a := by
  intro e
  have : a ^^^ x = a ^^^ 0 := by rw [e, Nat.xor_zero]
  exact h (xor_inj this)
theorem frame_told (b mc : List Nat) (f e d : Nat) (hb : isB b) (hp : (framePut b).2 = 0) (hmc : isB mc) (hl : mc.length = (framePut b).1.length) (h16 : 16 ≤ f) (hf : f < 16 + 8 * (b.length + 4)) (hc : f < 48 ∧ e = 48 ∨ 48 ≤ f ∧ e = 8 * (framePut b).1.length)
    (hd : d < 2 ^ 32) (hde : d * 2 ^ f < 2 ^ e) (hm : msg mc = msg (framePut b).1 ^^^ d * 2 ^ f) : frameAt mc = if d = 0 then .ok b else .error 8 := by
  obtain ⟨hBl, h1, h2⟩ := framePut_length b hp
  have hB := framePut_isB hb
  have hv : (framePut b).1 = nb 2 b.length ++ nb 4 (fsum b) ++ b := by unfold framePut; rw [if_pos ⟨h1, h2⟩]
  rw [msg_num mc hmc, msg_num _ hB] at hm
  have t2 : mc.take 2 = (framePut b).1.take 2 := by
    refine num_inj (isB_take hmc 2) (isB_take hB 2) (by rw [List.length_take, List.length_take, hl]) ?_
    rw [num_take mc hmc 2 (by omega), num_take _ hB 2 (by omega), hm, Nat.xor_mod_two_pow, low_zero d f (8 * 2) h16, Nat.xor_zero]
  have b2 : (framePut b).1.take 2 = nb 2 b.length := by rw [hv]; simp only [List.append_assoc]; exact List.take_left' (nb_length _ _)
  have b6 : (framePut b).1.drop 6 = b := by rw [hv]; exact List.drop_left' (by simp only [List.length_append, nb_length])
  have b4 : ((framePut b).1.drop 2).take 4 = nb 4 (fsum b) := by
    rw [hv]; simp only [List.append_assoc]
    rw [List.drop_left' (nb_length _ _)]; exact List.take_left' (nb_length _ _)
  have n2 : num (nb 2 b.length) = b.length := by
    rw [num_nb]; have e : (256 : Nat) ^ 2 = 65536 := by decide
    rw [e]; omega
  have n4 : num (nb 4 (fsum b)) = fsum b := by
    rw [num_nb]; have e : (256 : Nat) ^ 4 = 4294967296 := by decide
    rw [e]; exact Nat.mod_eq_of_lt (fsum_lt b hb)
  have hml : mc.length = 6 + b.length := by rw [hl, hBl]
  have htake : (mc.drop 6).take b.length = mc.drop 6 := List.take_of_length_le (by rw [List.length_drop]; omega)
  have q4 : num ((mc.drop 2).take 4) = num mc / 2 ^ 16 % 2 ^ 32 := by
    rw [num_take _ (isB_drop hmc 2) 4 (by rw [List.length_drop]; omega), num_drop mc hmc 2 (by omega)]
  have q4' : fsum b = num (framePut b).1 / 2 ^ 16 % 2 ^ 32 := by
    rw [← n4, ← b4, num_take _ (isB_drop hB 2) 4 (by rw [List.length_drop]; omega), num_drop _ hB 2 (by omega)]
  have q6 : num (mc.drop 6) = num mc / 2 ^ 48 := num_drop mc hmc 6 (by omega)
  have q6' : num b = num (framePut b).1 / 2 ^ 48 := by
    have := num_drop _ hB 6 (by omega)
    rwa [b6] at this
  unfold frameAt
  rw [t2, b2, n2, if_neg (by omega), if_neg (by omega), if_neg (by omega), if_neg (by omega), htake]
  rcases hc with ⟨c1, rfl⟩ | ⟨c1, rfl⟩
  · -- the sum's bits
    have hbody : mc.drop 6 = b := by
      refine num_inj (isB_drop hmc 6) hb (by rw [List.length_drop]; omega) ?_
      rw [q6, q6', hm, xor_div_pow, Nat.div_eq_of_lt hde, Nat.xor_zero]
    have hlt : d * 2 ^ (f - 16) < 2 ^ 32 := by
      have := Nat.div_lt_of_lt_mul (m := d * 2 ^ f) (n := 2 ^ 16) (k := 2 ^ 32) (by rw [← Nat.pow_add]; exact hde)
      rwa [div_shift d f 16 h16] at this
    have hown : num ((mc.drop 2).take 4) = fsum b ^^^ d * 2 ^ (f - 16) := by
      rw [q4, hm, xor_div_pow, div_shift d f 16 h16, Nat.xor_mod_two_pow, ← q4', Nat.mod_eq_of_lt hlt]
    rw [hown, hbody]
    by_cases h0 : d = 0
    · subst h0
      simp
    · rw [if_neg h0, if_pos (xor_ne (Nat.mul_ne_zero h0 (Nat.ne_of_gt (Nat.pow_pos (by decide)))))]
  · -- the body's bits
    have hown : num ((mc.drop 2).take 4) = fsum b := by
      have e1 : num mc % 2 ^ 48 = num (framePut b).1 % 2 ^ 48 := by rw [hm, Nat.xor_mod_two_pow, low_zero d f 48 c1, Nat.xor_zero]
      have e2 : ∀ x : Nat, x / 2 ^ 16 % 2 ^ 32 = x % 2 ^ 48 / 2 ^ 16 := fun x => by omega
      rw [q4, q4', e2, e2, e1]
    have hbn : num (mc.drop 6) = num b ^^^ d * 2 ^ (f - 48) := by rw [q6, q6', hm, xor_div_pow, div_shift d f 48 c1]
    have hmB := isB_drop hmc 6
    have hlen : (mc.drop 6).length = b.length := by rw [List.length_drop]; omega
    have hmsg : msg (nb 2 b.length ++ mc.drop 6) = msg (nb 2 b.length ++ b) ^^^ d * 2 ^ (f - 48 + 16) := by
      have key : ∀ y : List Nat, isB y → msg (nb 2 b.length ++ y) = msg (nb 2 b.length) ^^^ msg y * 2 ^ 16 := fun y hy => by
        have hlt : num (nb 2 b.length) < 2 ^ 16 := by rw [n2]; omega
        rw [msg_num _ (isB_append (nb_isB _ _) hy), msg_num _ (nb_isB _ _), msg_num y hy, num_append, nb_length, Nat.xor_comm, xor_low hlt]
        have e : (256 : Nat) ^ 2 = 2 ^ 16 := by decide
        rw [e]; omega
      rw [key _ hmB, key _ hb, msg_num _ hmB, msg_num _ hb, hbn, mul_xor', Nat.mul_assoc d, ← Nat.pow_add, Nat.xor_assoc]
    have ht := sum_told (nb 2 b.length ++ b) (nb 2 b.length ++ mc.drop 6) (f - 48 + 16) d (by rw [List.length_append, List.length_append, hlen]) hmsg (by rw [List.length_append, nb_length]; omega) hd
    have hfs : fsum (mc.drop 6) = fsum b ↔ d = 0 := by unfold fsum; rw [hlen]; exact ht
    rw [hown]
    by_cases h0 : d = 0
    · rw [if_pos h0, if_neg (fun h => h (hfs.2 h0).symm)]
      have : mc.drop 6 = b := num_inj hmB hb hlen (by rw [hbn, h0]; simp)
      rw [this]
    · rw [if_neg h0, if_pos (fun h => h0 (hfs.1 h.symm))]
end Go.Proofs.Ytdpodjgggicaoaa.H
