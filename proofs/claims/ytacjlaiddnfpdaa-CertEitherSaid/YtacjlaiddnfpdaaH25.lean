/- Rings of edges: each comes to where the next one begins, no two begin at one host; turned; begun at the least. No conditions. -/
import Derived.Test.YtacjlaiddnfpdaaH21
set_option linter.unusedVariables false
namespace Go.Proofs.Ytacjlaiddnfpdaa.H
structure ring {α : Type} (f t : α → Int) (c : List α) : Prop where
  nx : ∀ j (h : j < c.length), t c[j] = f (c[if j + 1 < c.length then j + 1 else 0]'(by split <;> omega))
  dis : ∀ a b (ha : a < c.length) (hb : b < c.length), f c[a] = f c[b] → a = b
theorem turn_len {α : Type} (c : List α) (k : Nat) (hk : k ≤ c.length) : (c.drop k ++ c.take k).length = c.length := by
  rw [List.length_append, List.length_drop, List.length_take]; omega
theorem turn_get {α : Type} (c : List α) (k : Nat) (hk : k ≤ c.length) (j : Nat) (h : j < c.length) : (c.drop k ++ c.take k)[j]'(by rw [turn_len c k hk]; exact h) = c[if j + k < c.length then j + k else j + k - c.length]'(by split <;> omega) := by
  rw [List.getElem_append]
  by_cases hj : j + k < c.length
  · rw [dif_pos (by rw [List.length_drop]; omega), List.getElem_drop]
    congr 1
    rw [if_pos hj]; omega
  · rw [dif_neg (by rw [List.length_drop]; omega), List.getElem_take]
    congr 1
    rw [if_neg hj, List.length_drop]; omega
theorem ring_turn {α : Type} {f t : α → Int} {c : List α} (h : ring f t c) (k : Nat) (hk : k ≤ c.length) : ring f t (c.drop k ++ c.take k) := by
  have hl := turn_len c k hk
  refine ⟨fun j hj => ?_, fun a b ha hb he => ?_⟩
  · have hj' : j < c.length := by omega
    have e1 := turn_get c k hk j hj'
    have e2 := turn_get c k hk (if j + 1 < (c.drop k ++ c.take k).length then j + 1 else 0) (by split <;> omega)
    rw [e1, e2, h.nx _ (by split <;> omega)]
    congr 2
    rw [hl]
    by_cases c1 : j + k < c.length <;> by_cases c2 : j + 1 < c.length <;> simp only [c1, c2, if_true, if_false] <;> split <;> split <;> omega
  · rw [turn_get c k hk a (by omega), turn_get c k hk b (by omega)] at he
    have := h.dis _ _ _ _ he
    have ha' : a < c.length := by omega
    have hb' : b < c.length := by omega
    by_cases c1 : a + k < c.length <;> by_cases c2 : b + k < c.length <;> simp only [c1, c2, if_true, if_false] at this <;> omega
theorem turn_mem {α : Type} {c : List α} {k : Nat} {x : α} : x ∈ c.drop k ++ c.take k ↔ x ∈ c := by
  rw [List.mem_append, Or.comm, ← List.mem_append, List.take_append_drop]
def sumW {α : Type} (w : α → Int) : List α → Int
  | [] => 0
  | a :: r => w a + sumW w r
theorem sumW_append {α : Type} (w : α → Int) : ∀ a b : List α, sumW w (a ++ b) = sumW w a + sumW w b
  | [], b => by simp [sumW]
  | x :: a, b => by
    show w x + sumW w (a ++ b) = w x + sumW w a + sumW w b
    rw [sumW_append w a b]; omega
theorem sumW_turn {α : Type} (w : α → Int) (c : List α) (k : Nat) : sumW w (c.drop k ++ c.take k) = sumW w c := by
  have h : sumW w (c.take k ++ c.drop k) = sumW w c := by rw [List.take_append_drop]
  rw [sumW_append] at h ⊢
  omega
theorem sumW_abs {α : Type} (w : α → Int) (M : Int) : ∀ c : List α, (∀ e ∈ c, -M ≤ w e ∧ w e ≤ M) → -(M * (c.length : Int)) ≤ sumW w c ∧ sumW w c ≤ M * (c.length : Int)
  | [], _ => by show -(M * ((0 : Nat) : Int)) ≤ 0 ∧ 0 ≤ M * ((0 : Nat) : Int); simp
  | x :: c, h => by
    have ih := sumW_abs w M c (fun e he => h e (List.mem_cons_of_mem _ he))
    have hx := h x List.mem_cons_self
    have e : ((x :: c).length : Int) = (c.length : Int) + 1 := by rw [List.length_cons]; omega
    rw [e, Int.mul_add, Int.mul_one]
    show -(M * (c.length : Int) + M) ≤ w x + sumW w c ∧ w x + sumW w c ≤ M * (c.length : Int) + M
    omega
theorem sumW_take {α : Type} (w : α → Int) (c : List α) (i : Nat) (h : i < c.length) : sumW w (c.take (i + 1)) = sumW w (c.take i) + w c[i] := by
  rw [List.take_succ_eq_append_getElem h, sumW_append]
  show _ + (w c[i] + 0) = _
  omega
/-- The place of the least of so many numbers, the first one. -/
def lsI (x : Nat → Int) : Nat → Nat
  | 0 => 0
  | i + 1 => if x i < x (lsI x i) then i else lsI x i
theorem lsI_lt (x : Nat → Int) : ∀ n, 0 < n → lsI x n < n
  | 0, h => absurd h (by omega)
  | n + 1, _ => by
    show (if x n < x (lsI x n) then n else lsI x n) < n + 1
    split
    · omega
    · rcases Nat.eq_zero_or_pos n with rfl | hn
      · exact Nat.zero_lt_one
      · exact Nat.lt_succ_of_lt (lsI_lt x n hn)
theorem lsI_le_n (x : Nat → Int) (n : Nat) : lsI x n ≤ n := by
  rcases Nat.eq_zero_or_pos n with rfl | hn
  · exact Nat.le_refl _
  · exact Nat.le_of_lt (lsI_lt x n hn)
theorem lsI_le (x : Nat → Int) : ∀ n j, j < n → x (lsI x n) ≤ x j
  | 0, j, h => absurd h (by omega)
  | n + 1, j, h => by
    show x (if x n < x (lsI x n) then n else lsI x n) ≤ x j
    rcases Nat.lt_or_ge j n with hj | hj
    · have := lsI_le x n j hj
      split <;> omega
    · obtain rfl : j = n := by omega
      split <;> omega
theorem lsI_ext {x y : Nat → Int} : ∀ n, (∀ j, j < n → x j = y j) → (0 < n) → lsI x n = lsI y n
  | 0, _, h => absurd h (by omega)
  | n + 1, h, _ => by
    show (if x n < x (lsI x n) then n else lsI x n) = (if y n < y (lsI y n) then n else lsI y n)
    rcases Nat.eq_zero_or_pos n with rfl | hn
    · simp [lsI]
    · rw [← lsI_ext n (fun j hj => h j (by omega)) hn, h n (by omega), h _ (Nat.lt_succ_of_lt (lsI_lt x n hn))]
/-- Of a walk back that comes to one host twice: the edges between, the last one first. -/
theorem ring_walk {α : Type} {f t : α → Int} {h : Nat → Int} {e : Nat → α} {i m : Nat} (him : i < m) (he : h i = h m) (hno : ∀ a b, a < b → b < m → h a ≠ h b) (hf : ∀ j, j < m → f (e j) = h (j + 1)) (ht : ∀ j, j < m → t (e j) = h j) : ring f t ((List.range (m - i)).map fun p => e (m - 1 - p)) := by
  have hl : ((List.range (m - i)).map fun p => e (m - 1 - p)).length = m - i := by simp
  refine ⟨fun j hj => ?_, fun a b ha hb hq => ?_⟩
  · have hj' : j < m - i := by omega
    simp only [List.getElem_map, List.getElem_range]
    rw [ht _ (by omega), hf _ (by omega)]
    rw [hl]
    by_cases c1 : j + 1 < m - i
    · rw [if_pos c1]; congr 1; omega
    · rw [if_neg c1, show m - 1 - j = i by omega, show m - 1 - 0 + 1 = m by omega]; exact he
  · simp only [List.getElem_map, List.getElem_range] at hq
    rw [hf _ (by omega), hf _ (by omega), show m - 1 - a + 1 = m - a by omega, show m - 1 - b + 1 = m - b by omega] at hq
    rcases Nat.lt_trichotomy a b with hab | hab | hab
    · exfalso
      rcases Nat.eq_zero_or_pos a with rfl | ha0
      · rw [Nat.sub_zero, ← he] at hq; exact hno i (m - b) (by omega) (by omega) hq
      · exact hno (m - b) (m - a) (by omega) (by omega) hq.symm
    · exact hab
    · exfalso
      rcases Nat.eq_zero_or_pos b with rfl | hb0
      · rw [Nat.sub_zero, ← he] at hq; exact hno i (m - a) (by omega) (by omega) hq.symm
      · exact hno (m - a) (m - b) (by omega) (by omega) hq
theorem sumW_le {α : Type} {u v : α → Int} : ∀ c : List α, (∀ e ∈ c, u e ≤ v e) → sumW u c ≤ sumW v c
  | [], _ => Int.le_refl _
  | x :: c, h => by
    have ih := sumW_le c (fun e he => h e (List.mem_cons_of_mem _ he))
    have hx := h x List.mem_cons_self
    show u x + sumW u c ≤ v x + sumW v c
    omega
theorem sumW_add {α : Type} (u v : α → Int) : ∀ c : List α, sumW (fun e => u e + v e) c = sumW u c + sumW v c
  | [] => rfl
  | x :: c => by
    show u x + v x + sumW (fun e => u e + v e) c = u x + sumW u c + (v x + sumW v c)
    rw [sumW_add u v c]; omega
theorem sumW_get {α : Type} {u v : α → Int} : ∀ {c d : List α}, c.length = d.length → (∀ j (hc : j < c.length) (hd : j < d.length), u c[j] = v d[j]) → sumW u c = sumW v d
  | [], [], _, _ => rfl
  | [], _ :: _, h, _ => by cases h
  | _ :: _, [], h, _ => by cases h
  | x :: c, y :: d, h, hg => by
    have h0 := hg 0 (by simp) (by simp)
    have ih := sumW_get (c := c) (d := d) (by simpa using h) (fun j hc hd => hg (j + 1) (by simpa using hc) (by simpa using hd))
    show u x + sumW u c = v y + sumW v d
    have h0' : u x = v y := h0
    omega
/-- Round a ring whose edges hold the weights are not below 0 together. -/
theorem ring_pot {α : Type} {f t w : α → Int} {c : List α} (h : ring f t c) (x : Int → Int) (hx : ∀ e ∈ c, x (t e) ≤ x (f e) + w e) : 0 ≤ sumW w c := by
  rcases Nat.eq_zero_or_pos c.length with h0 | h0
  · rw [List.length_eq_zero_iff.1 h0]; exact Int.le_refl _
  have h1 : sumW (fun e => x (t e)) c = sumW (fun e => x (f e)) (c.drop 1 ++ c.take 1) := by
    refine sumW_get (turn_len c 1 h0).symm (fun j hc hd => ?_)
    show x (t c[j]) = x (f _)
    rw [turn_get c 1 h0 j hc, h.nx j hc]
    congr 2
    by_cases c1 : j + 1 < c.length
    · simp only [c1, if_true]
    · simp only [c1, if_false]; congr 1; omega
  have h2 := sumW_turn (fun e => x (f e)) c 1
  have h3 := sumW_le c hx
  rw [sumW_add (fun e => x (f e)) w c] at h3
  omega
end Go.Proofs.Ytacjlaiddnfpdaa.H
