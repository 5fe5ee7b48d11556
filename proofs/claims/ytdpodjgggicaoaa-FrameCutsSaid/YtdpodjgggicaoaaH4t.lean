/- The plain mathematics of layer 2: numbers as bytes, the lowest first, and texts' fields. -/
import Derived.Test.YtdpodjgggicaoaaH3t
set_option linter.unusedVariables false
namespace Go.Proofs.Ytdpodjgggicaoaa.H
def nb : Nat → Nat → List Nat
  | 0, _ => []
  | k + 1, n => (n % 256) :: nb k (n / 256)
def num : List Nat → Nat
  | [] => 0
  | x :: r => x + 256 * num r
theorem nb_length (k : Nat) : ∀ n, (nb k n).length = k := by
  induction k with
  | zero => intro n; rfl
  | succ k ih => intro n; simp [nb, ih]
theorem nb_isB (k : Nat) : ∀ n, isB (nb k n) := by
  induction k with
  | zero => intro n; exact isB_nil
  | succ k ih => intro n; exact isB_cons (Nat.mod_lt _ (by decide)) (ih _)
theorem num_nb (k : Nat) : ∀ n, num (nb k n) = n % 256 ^ k := by
  induction k with
  | zero => intro n; simp [nb, num, Nat.mod_one]
  | succ k ih =>
    intro n
    simp only [nb, num]
    rw [ih, Nat.pow_succ, Nat.mul_comm (256 ^ k) 256, Nat.mod_mul]
theorem num_lt (m : List Nat) (h : isB m) : num m < 256 ^ m.length := by
  induction m with
  | nil => simp [num]
  | cons x r ih =>
    have hx := h x (by simp)
    have hr := ih (fun y hy => h y (by simp [hy]))
    simp only [num, List.length_cons, Nat.pow_succ]
    omega
theorem nb_num (m : List Nat) (h : isB m) : nb m.length (num m) = m := by
  induction m with
  | nil => rfl
  | cons x r ih =>
    have hx := h x (by simp)
    simp only [List.length_cons, nb, num]
    rw [show (x + 256 * num r) % 256 = x by omega, show (x + 256 * num r) / 256 = num r by omega, ih (fun y hy => h y (by simp [hy]))]
def cnt (size : Int) : Nat := (min (max size 0) 8).toNat
theorem cnt_le (size : Int) : cnt size ≤ 8 := by unfold cnt; omega
def getN (b : List Nat) (at_ : Int) (k : Nat) : Option Nat := if 0 ≤ at_ ∧ at_ + (k : Int) ≤ (b.length : Int) then some (num ((b.drop at_.toNat).take k)) else none
def field (s : List Nat) : List Nat := if s.length ≤ 16 then s.length :: s ++ List.replicate (16 - s.length) 0 else []
end Go.Proofs.Ytdpodjgggicaoaa.H
