/- Starts of layer 19 stand behind no more than all durations. -/
import Derived.Test.YthlekphkibeflaaH23
set_option linter.unusedVariables false
namespace Go.Proofs.Ythlekphkibeflaa.H
open Go.RowKit

def sumI (f : Int → Int) : List Int → Int
  | [] => 0
  | x :: r => f x + sumI f r
theorem sumI_append (f : Int → Int) : ∀ a b, sumI f (a ++ b) = sumI f a + sumI f b
  | [], b => by show sumI f b = 0 + sumI f b; omega
  | x :: a, b => by
    show f x + sumI f (a ++ b) = f x + sumI f a + sumI f b
    rw [sumI_append f a b]; omega
theorem sumI_nonneg {f : Int → Int} (h : ∀ x, 0 ≤ f x) : ∀ a, 0 ≤ sumI f a
  | [] => Int.le_refl _
  | x :: a => by
    have := sumI_nonneg h a
    have := h x
    show 0 ≤ f x + sumI f a
    omega
def totI (f : Int → Int) : Nat → Int
  | 0 => 0
  | n + 1 => totI f n + f (n : Int)
theorem sumI_tot {f : Int → Int} (h : ∀ x, 0 ≤ f x) : ∀ (n : Nat) (l : List Int), (∀ x ∈ l, 0 ≤ x ∧ x < (n : Int)) → l.Pairwise (· ≠ ·) → sumI f l ≤ totI f n := by
  intro n
  induction n with
  | zero =>
    intro l hl hp
    cases l with
    | nil => exact Int.le_refl _
    | cons x r => have := hl x (by simp); omega
  | succ n ih =>
    intro l hl hp
    have hn := h (n : Int)
    by_cases hm : (n : Int) ∈ l
    · obtain ⟨a, b, rfl⟩ := List.append_of_mem hm
      rw [List.pairwise_append, List.pairwise_cons] at hp
      obtain ⟨pa, ⟨pn, pb⟩, pab⟩ := hp
      have := ih (a ++ b) (fun x hx => by
        rcases List.mem_append.1 hx with hx | hx
        · have h1 := hl x (by simp [hx]); have h2 := pab x hx (n : Int) (by simp); omega
        · have h1 := hl x (by simp [hx]); have h2 := pn x hx; omega) (List.pairwise_append.2 ⟨pa, pb, fun x hx y hy => pab x hx y (by simp [hy])⟩)
      rw [sumI_append] at this ⊢
      show sumI f a + (f (n : Int) + sumI f b) ≤ totI f n + f (n : Int)
      omega
    · have := ih l (fun x hx => by
        have h1 := hl x hx
        have h2 : x ≠ (n : Int) := fun e => hm (e ▸ hx)
        omega) hp
      show sumI f l ≤ totI f n + f (n : Int)
      omega
def durs (l : List PS) (a : Int) : Int := (atP l a).t
theorem V_row {l : List PS} (hq : ∀ q ∈ l, okS q) {p : List Int} (h : forestQ p) {k : Nat} {row : List It3} (hr : rowK p k (-1) 0 = some row) {M : Int} (hM : ∀ a, (atP l a).s ≤ M) : ∀ (n : Nat) (pre : List It3) (x : It3) (post : List It3), pre.length = n → row = pre ++ x :: post → V l p x.1 ≤ M + sumI (durs l) (pre.map fun y => y.1) := by
  intro n
  induction n using Nat.strongRecOn with
  | ind n ih =>
    intro pre x post hn e
    obtain ⟨⟨i, hi, hil⟩, hnx, -, -⟩ := row_at h hr e
    have hd : ∀ a, 0 ≤ durs l a := fun a => (okS_at hq a).2.2.1
    have hs := sumI_nonneg hd (pre.map fun y => y.1)
    have hV := V_eq l h (a := x.1) (by omega) (by omega)
    rw [hnx] at hV
    rcases rowK_par k (-1) 0 row hr pre x post e with ⟨h3, -⟩ | ⟨pre1, y, mid, h3, h4, -, -⟩
    · rw [h3, if_pos (by decide)] at hV
      have := hM x.1
      omega
    · have ey : row = pre1 ++ y :: (mid ++ x :: post) := by rw [e, h3]; simp
      have hy := ih pre1.length (by rw [← hn, h3, List.length_append, List.length_cons]; omega) pre1 y (mid ++ x :: post) rfl ey
      obtain ⟨⟨j, hj, hjl⟩, -, -, -⟩ := row_at h hr ey
      rw [← h4, if_neg (by omega)] at hV
      have hb := (stepV_bd (okS_at hq x.1) (okS_at hq y.1) (V l p y.1)).2
      have hmid := sumI_nonneg hd (mid.map fun y => y.1)
      rw [h3, List.map_append, List.map_cons, sumI_append]
      have e1 : sumI (durs l) (y.1 :: mid.map fun y => y.1) = (atP l y.1).t + sumI (durs l) (mid.map fun y => y.1) := rfl
      rw [e1]
      omega
theorem V_tot {l : List PS} (hq : ∀ q ∈ l, okS q) {p : List Int} (h : forestQ p) {k : Nat} {row : List It3} (hr : rowK p k (-1) 0 = some row) {M : Int} (hM : ∀ a, (atP l a).s ≤ M) (i : Nat) (hi : i < p.length) : V l p (i : Int) ≤ M + totI (durs l) p.length := by
  obtain ⟨x, hx, hx1⟩ := row_has h.1 h.2 hr i hi
  obtain ⟨pre, post, e⟩ := List.append_of_mem hx
  have h1 := V_row hq h hr hM pre.length pre x post rfl e
  have hd : ∀ a, 0 ≤ durs l a := fun a => (okS_at hq a).2.2.1
  have h2 := sumI_tot hd p.length (pre.map fun y => y.1) (fun a ha => by
    obtain ⟨y, hy, rfl⟩ := List.mem_map.1 ha
    obtain ⟨⟨j, hj, hjl⟩, -⟩ := rowK_el k (-1) 0 row hr y (by rw [e]; simp [hy])
    omega) (by
    have ha := rowK_apart h.2 k (-1) 0 row hr
    rw [e, List.pairwise_append] at ha
    rw [List.pairwise_map]
    exact ha.1.imp (fun h => h.1))
  rw [hx1] at h1
  omega
end Go.Proofs.Ythlekphkibeflaa.H
