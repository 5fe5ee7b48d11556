/- The plain mathematics of the sum of layer 3: one step on whole numbers is linear for xor, and a row of bytes is one great number. No Go here. -/
set_option linter.unusedVariables false
namespace Go.Proofs.Ytdpodjgggicaoaa.H
def poly : Nat := 3988292384
def cs (z : Nat) : Nat := if z % 2 = 1 then (z / 2) ^^^ poly else z / 2
def csn : Nat → Nat → Nat
  | 0, z => z
  | n + 1, z => csn n (cs z)
theorem xor_div2 (a b : Nat) : (a ^^^ b) / 2 = a / 2 ^^^ b / 2 := by
  apply Nat.eq_of_testBit_eq; intro i
  simp [Nat.testBit_xor, Nat.testBit_div_two]
theorem xor_mod2 (a b : Nat) : (a ^^^ b) % 2 = (a % 2 + b % 2) % 2 := by
  have h := Nat.testBit_xor (x := a) (y := b) (i := 0)
  simp only [Nat.testBit_zero] at h
  rcases Nat.mod_two_eq_zero_or_one a with ha | ha <;> rcases Nat.mod_two_eq_zero_or_one b with hb | hb <;> rcases Nat.mod_two_eq_zero_or_one (a ^^^ b) with hc | hc <;> simp [ha, hb, hc] at h ⊢
theorem cs_xor (a b : Nat) : cs (a ^^^ b) = cs a ^^^ cs b := by
  unfold cs
  rw [xor_div2, xor_mod2]
  rcases Nat.mod_two_eq_zero_or_one a with ha | ha <;> rcases Nat.mod_two_eq_zero_or_one b with hb | hb <;> simp [ha, hb]
  · rw [Nat.xor_assoc]
  · rw [Nat.xor_assoc, Nat.xor_assoc, Nat.xor_comm poly (b / 2)]
  · rw [Nat.xor_assoc, ← Nat.xor_assoc poly, Nat.xor_comm poly (b / 2), Nat.xor_assoc, Nat.xor_self, Nat.xor_zero]
theorem csn_xor (n : Nat) : ∀ a b, csn n (a ^^^ b) = csn n a ^^^ csn n b := by
  induction n with
  | zero => intro a b; rfl
  | succ n ih => intro a b; simp only [csn]; rw [cs_xor, ih]
theorem cs_double (z : Nat) : cs (2 * z) = z := by unfold cs; rw [if_neg (by omega)]; omega
theorem csn_mul (n : Nat) : ∀ z, csn n (z * 2 ^ n) = z := by
  induction n with
  | zero => intro z; simp [csn]
  | succ n ih => intro z; simp only [csn]; rw [Nat.pow_succ, show z * (2 ^ n * 2) = 2 * (z * 2 ^ n) by rw [← Nat.mul_assoc, Nat.mul_comm], cs_double, ih]
theorem cs_lt {z : Nat} (h : z < 2 ^ 32) : cs z < 2 ^ 32 := by
  unfold cs
  split
  · exact Nat.xor_lt_two_pow (by omega) (by decide)
  · omega
theorem csn_lt (n : Nat) : ∀ {z}, z < 2 ^ 32 → csn n z < 2 ^ 32 := by
  induction n with
  | zero => intro z h; exact h
  | succ n ih => intro z h; exact ih (cs_lt h)
theorem xor_self_left (a b : Nat) : a ^^^ (a ^^^ b) = b := by rw [← Nat.xor_assoc, Nat.xor_self, Nat.zero_xor]
theorem xor_low {a b n : Nat} (hb : b < 2 ^ n) : a * 2 ^ n ^^^ b = a * 2 ^ n + b := by
  rw [Nat.mul_comm a]
  apply Nat.eq_of_testBit_eq; intro i
  rw [Nat.testBit_xor, Nat.testBit_two_pow_mul_add _ hb, Nat.testBit_two_pow_mul]
  by_cases h : i < n
  · have : ¬ n ≤ i := by omega
    simp [h, this]
  · have hb' : b.testBit i = false := Nat.testBit_lt_two_pow (Nat.lt_of_lt_of_le hb (Nat.pow_le_pow_right (by decide) (by omega)))
    have : n ≤ i := by omega
    simp [h, hb', this]
theorem cs_byte (c x : Nat) : c / 256 ^^^ csn 8 ((c % 256) ^^^ x) = csn 8 (c ^^^ x) := by
  have h : c = c / 256 * 2 ^ 8 ^^^ c % 256 := by
    rw [xor_low (by omega)]; omega
  have h2 : csn 8 (c ^^^ x) = csn 8 (c / 256 * 2 ^ 8 ^^^ (c % 256 ^^^ x)) := by
    rw [← Nat.xor_assoc, ← h]
  rw [h2, csn_xor 8 (c / 256 * 2 ^ 8), csn_mul]
def crc (c : Nat) (l : List Nat) : Nat := l.foldl (fun c x => csn 8 (c ^^^ x)) c
theorem crc_append (c : Nat) (a b : List Nat) : crc c (a ++ b) = crc (crc c a) b := by simp [crc, List.foldl_append]
theorem crc_lt (l : List Nat) : ∀ {c}, c < 2 ^ 32 → (∀ x ∈ l, x < 256) → crc c l < 2 ^ 32 := by
  induction l with
  | nil => intro c h _; exact h
  | cons x r ih =>
    intro c h hl
    have hx := hl x (by simp)
    exact ih (csn_lt 8 (Nat.xor_lt_two_pow h (by omega))) (fun y hy => hl y (by simp [hy]))
def ones : Nat := 4294967295
def sumFrom (c : Nat) (l : List Nat) : Nat := ones ^^^ crc (ones ^^^ c) l
theorem sumFrom_append (c : Nat) (a b : List Nat) : sumFrom c (a ++ b) = sumFrom (sumFrom c a) b := by
  unfold sumFrom; rw [xor_self_left, crc_append]
end Go.Proofs.Ytdpodjgggicaoaa.H
