/- The program's sum and the document's are the plain one of H1. -/
import Derived.Test.YtdpodjgggicaoaaH1
import Derived.Test.YtdpodjgggicaoaaSTx1
set_option linter.unusedVariables false
set_option linter.unusedSimpArgs false
namespace Go.Proofs.Ytdpodjgggicaoaa.ST
open Go.RowKit Go.Proofs.YtdpodjgggicaoaaW.PrintWords Go.Proofs.YtdpodjgggicaoaaW.PrintLast Go.Proofs.Ytdpodjgggicaoaa.H

/-- Bytes as whole numbers are the casts of bytes. -/
theorem bytes_nat (l : List Int) (h : ∀ x ∈ l, 0 ≤ x ∧ x ≤ 255) : ∃ m : List Nat, l = m.map (fun n : Nat => (n : Int)) ∧ ∀ x ∈ m, x < 256 := by
  refine ⟨l.map Int.toNat, ?_, ?_⟩
  · rw [List.map_map]
    conv => lhs; rw [← List.map_id l]
    apply List.map_congr_left
    intro x hx
    have := h x hx
    simp only [id_eq, Function.comp]
    omega
  · intro x hx
    obtain ⟨y, hy, rfl⟩ := List.mem_map.1 hx
    have := h y hy
    omega
theorem wf_u8 {x : Int} (h : (Lit.int .u8 x).wf = true) : 0 ≤ x ∧ x ≤ 255 := by
  simp [Lit.wf, IntKind.min, IntKind.max, IntKind.signed, IntKind.bits] at h; omega
theorem wf_u32 {x : Int} (h : (Lit.int .u32 x).wf = true) : 0 ≤ x ∧ x ≤ 4294967295 := by
  simp [Lit.wf, IntKind.min, IntKind.max, IntKind.signed, IntKind.bits] at h; omega
theorem wf_u16 {x : Int} (h : (Lit.int .u16 x).wf = true) : 0 ≤ x ∧ x ≤ 65535 := by
  simp [Lit.wf, IntKind.min, IntKind.max, IntKind.signed, IntKind.bits] at h; omega
theorem wf_u64 {x : Int} (h : (Lit.int .u64 x).wf = true) : 0 ≤ x ∧ x ≤ 18446744073709551615 := by
  simp [Lit.wf, IntKind.min, IntKind.max, IntKind.signed, IntKind.bits] at h; omega
theorem wrap_u64 (n : Int) : IntKind.u64.wrap n = n % 18446744073709551616 := by simp [IntKind.wrap, IntKind.bits, IntKind.signed]
theorem w64c (x : Int) (h0 : 0 ≤ x) (h1 : x ≤ 9223372036854775807) : wrap64 x = x := by unfold wrap64; omega
theorem steps_round (n : Nat) (hn : n < 4294967296) (k : Nat) (i : Int) (hi : 0 ≤ i) (h8 : i < 8) :
    check_steps.l0 (k + 1) (n : Int) i = check_steps.l0 k ((cs n : Nat) : Int) (i + 1) := by
  have hw : wrap64 (i + 1) = i + 1 := by unfold wrap64; omega
  have ha : Go.bits .and .u32 (n : Int) 1 = ((n % 2 : Nat) : Int) := by
    have := u32_and_nat n 1 hn (by decide)
    rw [Nat.and_one_is_mod] at this; exact this
  simp only [check_steps.l0]
  rw [if_pos h8, ha, hw]
  unfold cs
  by_cases h1 : n % 2 = 1
  · rw [if_neg (by omega), if_pos h1]
    congr 1
    have := u32_xor_nat (n / 2) poly (by omega) (by decide)
    exact this
  · rw [if_pos (by omega), if_neg h1]
    rfl
theorem stepTab_nat (n : Nat) (hn : n < 4294967296) : stepTab (n : Int) = ((csn 8 n : Nat) : Int) := by
  have h : check_steps.f 9 (n : Int) = some ((csn 8 n : Nat) : Int) := by
    unfold check_steps.f
    have e : ∀ d : Nat, ∀ (m : Nat), m < 4294967296 → d ≤ 8 → check_steps.l0 (d + 1) (m : Int) (8 - (d : Int)) = some ((csn d m : Nat) : Int) := by
      intro d
      induction d with
      | zero => intro m _ _; simp [check_steps.l0, csn]
      | succ d ih =>
        intro m hm hd
        rw [steps_round m hm (d + 1) _ (by omega) (by omega)]
        have := ih (cs m) (cs_lt hm) (by omega)
        rw [show (8 : Int) - ((d + 1 : Nat) : Int) + 1 = 8 - (d : Int) by omega, this]
        rfl
    have := e 8 n hn (by omega)
    simpa using this
  simp [stepTab, h]
theorem more_step (c x : Nat) (hc : c < 4294967296) (hx : x < 256) :
    Go.bits .xor .u32 ((c : Int) / 256) (stepTab (Go.bits .xor .u8 ((c : Int) % 256) (x : Int))) = ((csn 8 (c ^^^ x) : Nat) : Int) := by
  have h1 : Go.bits .xor .u8 ((c : Int) % 256) (x : Int) = ((c % 256 ^^^ x : Nat) : Int) := u8_xor_nat (c % 256) x (by omega) hx
  have hlt : c % 256 ^^^ x < 256 := Nat.xor_lt_two_pow (n := 8) (by omega) (by omega)
  rw [h1, stepTab_nat _ (by omega)]
  have h2 := u32_xor_nat (c / 256) (csn 8 (c % 256 ^^^ x)) (by omega) (csn_lt 8 (by omega))
  rw [cs_byte] at h2
  exact h2
theorem more_fold (m : List Nat) : ∀ c : Nat, c < 4294967296 → (∀ x ∈ m, x < 256) →
    (m.map (fun n : Nat => (n : Int))).foldl (fun c x => Go.bits .xor .u32 (c / 256) (stepTab (Go.bits .xor .u8 (c % 256) x))) (c : Int) = ((crc c m : Nat) : Int) := by
  induction m with
  | nil => intro c _ _; rfl
  | cons x r ih =>
    intro c hc h
    have hx := h x (by simp)
    simp only [List.map_cons, List.foldl_cons]
    rw [more_step c x hc hx, ih _ (csn_lt 8 (Nat.xor_lt_two_pow (n := 32) hc (by omega))) (fun y hy => h y (by simp [hy]))]
    rfl
theorem check_More_nat (a : Nat) (m : List Nat) (ha : a < 4294967296) (hm : ∀ x ∈ m, x < 256) :
    check_More.f (a : Int) (m.map (fun n : Nat => (n : Int))) = some ((sumFrom a m : Nat) : Int) := by
  unfold check_More.f
  have h1 : Go.bits .xor .u32 4294967295 (a : Int) = ((ones ^^^ a : Nat) : Int) := u32_xor_nat 4294967295 a (by decide) ha
  have hl : ones ^^^ a < 4294967296 := Nat.xor_lt_two_pow (n := 32) (by decide) (by omega)
  rw [h1, more_fold m _ hl hm]
  exact congrArg some (u32_xor_nat 4294967295 _ (by decide) (crc_lt m (by omega) hm))
theorem sumFrom_lt (a : Nat) (m : List Nat) (ha : a < 4294967296) (hm : ∀ x ∈ m, x < 256) : sumFrom a m < 4294967296 :=
  Nat.xor_lt_two_pow (n := 32) (by decide) (crc_lt m (Nat.xor_lt_two_pow (n := 32) (by decide) (by omega)) hm)
theorem check_Sum_nat (m : List Nat) (hm : ∀ x ∈ m, x < 256) : check_Sum.f (m.map (fun n : Nat => (n : Int))) = some ((sumFrom 0 m : Nat) : Int) := by
  unfold check_Sum.f
  have := check_More_nat 0 m (by decide) hm
  rw [show ((0 : Nat) : Int) = 0 from rfl] at this
  rw [this]; rfl
end Go.Proofs.Ytdpodjgggicaoaa.ST
