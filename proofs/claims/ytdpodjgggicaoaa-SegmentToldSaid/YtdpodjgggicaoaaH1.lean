/- The plain mathematics of the sum of layer 3: one step on whole numbers is linear for xor, and a row of bytes is one great number. No Go here. -/
set_option linter.unusedVariables false
namespace Go.Proofs.Ytdpodjgggicaoaa.H

def poly : Nat := 3988292384
/-- One step: a bit is given away. -/
def cs (z : Nat) : Nat := if z % 2 = 1 then (z / 2) ^^^ poly else z / 2
def csn : Nat → Nat → Nat
  | 0, z => z
  | n + 1, z => csn n (cs z)

theorem xor_div2 (a b : Nat) : (a ^^^ b) / 2 = a / 2 ^^^ b / 2 := by
  apply Nat.eq_of_testBit_eq; intro i
  simp [Nat.testBit_xor, Nat.testBit_div_two]
theorem xor_mod2 (a b : Nat) : (a ^^^ b) % 2 = (a % 2 + b % 2) % 2 := by
  have h := Nat.testBit_xor (x := a) (y := b) (i := 0)
  simp only [Nat.testBit_zero] at h
  rcases Nat.mod_two_eq_zero_or_one a with ha | ha <;> rcases Nat.mod_two_eq_zero_or_one b with hb | hb <;> rcases Nat.mod_two_eq_zero_or_one (a ^^^ b) with hc | hc <;> simp [ha, hb, hc] at h ⊢
theorem cs_xor (a b : Nat) : cs (a ^^^ b) = cs a ^^^ cs b := by
  unfold cs
  rw [xor_div2, xor_mod2]
  rcases Nat.mod_two_eq_zero_or_one a with ha | ha <;> rcases Nat.mod_two_eq_zero_or_one b with hb | hb <;> simp [ha, hb]
  · rw [Nat.xor_assoc]
  · rw [Nat.xor_assoc, Nat.xor_assoc, Nat.xor_comm poly (b / 2)]
  · rw [Nat.xor_assoc, ← Nat.xor_assoc poly, Nat.xor_comm poly (b / 2), Nat.xor_assoc, Nat.xor_self, Nat.xor_zero]
theorem csn_xor (n : Nat) : ∀ a b, csn n (a ^^^ b) = csn n a ^^^ csn n b := by
  induction n with
  | zero => intro a b; rfl
  | succ n ih => intro a b; simp only [csn]; rw [cs_xor, ih]
theorem cs_double (z : Nat) : cs (2 * z) = z := by unfold cs; rw [if_neg (by omega)]; omega
theorem csn_mul (n : Nat) : ∀ z, csn n (z * 2 ^ n) = z := by
  induction n with
  | zero => intro z; simp [csn]
  | succ n ih => intro z; simp only [csn]; rw [Nat.pow_succ, show z * (2 ^ n * 2) = 2 * (z * 2 ^ n) by rw [← Nat.mul_assoc, Nat.mul_comm], cs_double, ih]
theorem csn_add (m : Nat) : ∀ n z, csn (n + m) z = csn n (csn m z) := by
  induction m with
  | zero => intro n z; rfl
  | succ m ih => intro n z; show csn (n + m) (cs z) = csn n (csn m (cs z)); rw [ih]
theorem cs_lt {z : Nat} (h : z < 2 ^ 32) : cs z < 2 ^ 32 := by
  unfold cs
  split
  · exact Nat.xor_lt_two_pow (by omega) (by decide)
  · omega
theorem csn_lt (n : Nat) : ∀ {z}, z < 2 ^ 32 → csn n z < 2 ^ 32 := by
  induction n with
  | zero => intro z h; exact h
  | succ n ih => intro z h; exact ih (cs_lt h)
theorem cs_ne {z : Nat} (h : z < 2 ^ 32) (h0 : z ≠ 0) : cs z ≠ 0 := by
  unfold cs
  split
  · rename_i h1
    intro e
    have h3 : (z / 2).testBit 31 = false := Nat.testBit_lt_two_pow (by omega)
    have h4 : poly.testBit 31 = true := by decide
    have := congrArg (fun x => Nat.testBit x 31) e
    simp [Nat.testBit_xor, h3, h4] at this
  · omega
theorem csn_ne (n : Nat) : ∀ {z}, z < 2 ^ 32 → z ≠ 0 → csn n z ≠ 0 := by
  induction n with
  | zero => intro z _ h0; exact h0
  | succ n ih => intro z h h0; exact ih (cs_lt h) (cs_ne h h0)
theorem csn_zero (n : Nat) : csn n 0 = 0 := by
  induction n with
  | zero => rfl
  | succ n ih => exact ih
theorem xor_self_left (a b : Nat) : a ^^^ (a ^^^ b) = b := by rw [← Nat.xor_assoc, Nat.xor_self, Nat.zero_xor]
theorem xor_inj {a b c : Nat} (h : a ^^^ b = a ^^^ c) : b = c := by
  have := congrArg (a ^^^ ·) h
  simpa only [xor_self_left] using this
theorem xor_low {a b n : Nat} (hb : b < 2 ^ n) : a * 2 ^ n ^^^ b = a * 2 ^ n + b := by
  rw [Nat.mul_comm a]
  apply Nat.eq_of_testBit_eq; intro i
  rw [Nat.testBit_xor, Nat.testBit_two_pow_mul_add _ hb, Nat.testBit_two_pow_mul]
  by_cases h : i < n
  · have : ¬ n ≤ i := by omega
    simp [h, this]
  · have hb' : b.testBit i = false := Nat.testBit_lt_two_pow (Nat.lt_of_lt_of_le hb (Nat.pow_le_pow_right (by decide) (by omega)))
    have : n ≤ i := by omega
    simp [h, hb', this]
/-- The step of a byte by its table. -/
theorem cs_byte (c x : Nat) : c / 256 ^^^ csn 8 ((c % 256) ^^^ x) = csn 8 (c ^^^ x) := by
  have h : c = c / 256 * 2 ^ 8 ^^^ c % 256 := by
    rw [xor_low (by omega)]; omega
  have h2 : csn 8 (c ^^^ x) = csn 8 (c / 256 * 2 ^ 8 ^^^ (c % 256 ^^^ x)) := by
    rw [← Nat.xor_assoc, ← h]
  rw [h2, csn_xor 8 (c / 256 * 2 ^ 8), csn_mul]

/-- The sum's inner part. -/
def crc (c : Nat) (l : List Nat) : Nat := l.foldl (fun c x => csn 8 (c ^^^ x)) c
/-- A row of bytes as a number, the first byte lowest. -/
def msg : List Nat → Nat
  | [] => 0
  | x :: r => x ^^^ (msg r * 2 ^ 8)
theorem crc_msg (l : List Nat) : ∀ c, crc c l = csn (8 * l.length) (c ^^^ msg l) := by
  induction l with
  | nil => intro c; simp [crc, msg, csn]
  | cons x r ih =>
    intro c
    show crc (csn 8 (c ^^^ x)) r = _
    rw [ih, List.length_cons, show 8 * (r.length + 1) = 8 * r.length + 8 by omega, csn_add]
    simp only [msg]
    rw [← Nat.xor_assoc, csn_xor 8 (c ^^^ x), csn_mul]
theorem crc_append (c : Nat) (a b : List Nat) : crc c (a ++ b) = crc (crc c a) b := by simp [crc, List.foldl_append]
theorem crc_snoc (c : Nat) (a : List Nat) (x : Nat) : crc c (a ++ [x]) = csn 8 (crc c a ^^^ x) := by simp [crc, List.foldl_append]
theorem crc_lt (l : List Nat) : ∀ {c}, c < 2 ^ 32 → (∀ x ∈ l, x < 256) → crc c l < 2 ^ 32 := by
  induction l with
  | nil => intro c h _; exact h
  | cons x r ih =>
    intro c h hl
    have hx := hl x (by simp)
    exact ih (csn_lt 8 (Nat.xor_lt_two_pow h (by omega))) (fun y hy => hl y (by simp [hy]))
/-- One byte is changed. -/
theorem msg_set (l : List Nat) : ∀ (i y : Nat), i < l.length → msg (l.set i (l.getD i 0 ^^^ y)) = msg l ^^^ (y * 2 ^ (8 * i)) := by
  induction l with
  | nil => intro i y h; simp at h
  | cons x r ih =>
    intro i y h
    cases i with
    | zero => simp [msg]; rw [Nat.xor_assoc, Nat.xor_assoc, Nat.xor_comm y]
    | succ i =>
      have h2 := ih i y (by simpa using h)
      simp only [List.set_cons_succ, msg, List.getD_cons_succ]
      rw [h2, Nat.xor_assoc]
      congr 1
      have h3 : ∀ a b : Nat, (a ^^^ b) * 2 ^ 8 = a * 2 ^ 8 ^^^ b * 2 ^ 8 := by
        intro a b
        simp only [← Nat.shiftLeft_eq]
        exact Nat.shiftLeft_xor_distrib
      rw [h3, Nat.mul_assoc, ← Nat.pow_add, show 8 * (i + 1) = 8 * i + 8 by omega]
/-- The sum, begun with c. -/
def ones : Nat := 4294967295
def sumFrom (c : Nat) (l : List Nat) : Nat := ones ^^^ crc (ones ^^^ c) l
theorem sum_changed (l m : List Nat) (f d : Nat) (hl : m.length = l.length) (hm : msg m = msg l ^^^ (d * 2 ^ f)) (hf : f ≤ 8 * l.length) :
    sumFrom 0 m = sumFrom 0 l ^^^ csn (8 * l.length - f) d := by
  unfold sumFrom
  rw [crc_msg, crc_msg, hl, hm, ← Nat.xor_assoc, csn_xor, ← Nat.xor_assoc]
  congr 1
  obtain ⟨k, hk⟩ : ∃ k, 8 * l.length = k + f := ⟨8 * l.length - f, by omega⟩
  rw [hk, csn_add, csn_mul, Nat.add_sub_cancel]
theorem sum_told (l m : List Nat) (f d : Nat) (hl : m.length = l.length) (hm : msg m = msg l ^^^ (d * 2 ^ f)) (hf : f ≤ 8 * l.length) (hd : d < 2 ^ 32) :
    sumFrom 0 m = sumFrom 0 l ↔ d = 0 := by
  rw [sum_changed l m f d hl hm hf]
  constructor
  · intro h
    have h2 : sumFrom 0 l ^^^ csn (8 * l.length - f) d = sumFrom 0 l ^^^ 0 := by rw [h, Nat.xor_zero]
    have h3 := xor_inj h2
    rcases Nat.eq_zero_or_pos d with h0 | h0
    · exact h0
    · exact absurd h3 (csn_ne _ hd (by omega))
  · rintro rfl
    rw [csn_zero, Nat.xor_zero]
theorem sumFrom_append (c : Nat) (a b : List Nat) : sumFrom c (a ++ b) = sumFrom (sumFrom c a) b := by
  unfold sumFrom; rw [xor_self_left, crc_append]
end Go.Proofs.Ytdpodjgggicaoaa.H
