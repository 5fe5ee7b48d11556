/- The starts of layer 19: each by its parent's. -/
import Derived.Test.YthlekphkibeflaaH7
import Derived.Test.YthlekphkibeflaaH20
set_option linter.unusedVariables false
namespace Go.Proofs.Ythlekphkibeflaa.H
open Go.RowKit

def zP : PS := ⟨0, 0, 0, 0, [], [], 0, 0⟩
def okS (q : PS) : Prop := 0 ≤ q.s ∧ q.s < 1125899906842624 ∧ 0 ≤ q.t ∧ q.t ≤ 1125899906842624
def stepV (a p : PS) (t : Int) : Int := if a.t > p.t then t else if a.s + t - p.s < t then t else if a.s + t - p.s + a.t > t + p.t then t + p.t - a.t else a.s + t - p.s
theorem stepV_bd {a p : PS} (ha : okS a) (hp : okS p) (t : Int) : t ≤ stepV a p t ∧ stepV a p t ≤ t + p.t := by
  unfold okS at ha hp
  unfold stepV
  split
  · omega
  · split
    · omega
    · split <;> omega
def atP (l : List PS) (a : Int) : PS := l.getD a.toNat zP
theorem okS_at {l : List PS} (h : ∀ q ∈ l, okS q) (a : Int) : okS (atP l a) := by
  unfold atP
  rw [List.getD_eq_getElem?_getD]
  cases e : l[a.toNat]? with
  | none => exact ⟨by decide, by decide, by decide, by decide⟩
  | some q => exact h q (List.mem_of_getElem? e)
def val (l : List PS) (p : List Int) : Nat → Int → Int
  | 0, _ => 0
  | n + 1, a => if nx p a < 0 then (atP l a).s else stepV (atP l a) (atP l (nx p a)) (val l p n (nx p a))
theorem val_bd {l : List PS} (h : ∀ q ∈ l, okS q) (p : List Int) : ∀ (n : Nat) (a : Int), 0 ≤ val l p n a ∧ val l p n a ≤ (n : Int) * 1125899906842624
  | 0, a => by simp [val]
  | n + 1, a => by
    have ih := val_bd h p n (nx p a)
    have h1 := okS_at h a
    have h2 := okS_at h (nx p a)
    have h3 := stepV_bd h1 h2 (val l p n (nx p a))
    unfold okS at h1 h2
    unfold val
    split
    · have : (((n + 1 : Nat) : Int)) * 1125899906842624 = (n : Int) * 1125899906842624 + 1125899906842624 := by rw [Int.natCast_succ, Int.add_mul, Int.one_mul]
      omega
    · have : (((n + 1 : Nat) : Int)) * 1125899906842624 = (n : Int) * 1125899906842624 + 1125899906842624 := by rw [Int.natCast_succ, Int.add_mul, Int.one_mul]
      omega
theorem val_mono (l : List PS) (p : List Int) : ∀ (n m : Nat) (a : Int), 0 ≤ a → up p n a < 0 → n ≤ m → val l p m a = val l p n a
  | 0, _, a, h0, h, _ => absurd h (by show ¬ a < 0; omega)
  | n + 1, 0, _, _, _, h => absurd h (by omega)
  | n + 1, m + 1, a, h0, h, hm => by
    unfold val
    by_cases c : nx p a < 0
    · rw [if_pos c, if_pos c]
    · rw [if_neg c, if_neg c, val_mono l p n m (nx p a) (by omega) h (by omega)]
def forestQ (p : List Int) : Prop := okP p ∧ ∀ a, a < (p.length : Int) → ¬ cyc p a
def V (l : List PS) (p : List Int) (a : Int) : Int := val l p p.length a
theorem V_eq (l : List PS) {p : List Int} (h : forestQ p) {a : Int} (h0 : 0 ≤ a) (h1 : a < (p.length : Int)) : V l p a = if nx p a < 0 then (atP l a).s else stepV (atP l a) (atP l (nx p a)) (V l p (nx p a)) := by
  have he := up_ends_lt h.1 h.2 h1
  unfold V
  obtain ⟨n, hn⟩ : ∃ n, p.length = n + 1 := ⟨p.length - 1, by omega⟩
  rw [hn] at he ⊢
  conv => lhs; unfold val
  by_cases c : nx p a < 0
  · rw [if_pos c, if_pos c]
  · rw [if_neg c, if_neg c, val_mono l p n (n + 1) (nx p a) (by omega) he (by omega)]
theorem V_bd {l : List PS} (h : ∀ q ∈ l, okS q) {p : List Int} (hl : p.length ≤ 60) (a : Int) : 0 ≤ V l p a ∧ V l p a ≤ 67553994410557440 := by
  have := val_bd h p p.length a
  unfold V
  omega
/-- An entry of the row: its place, its parent, what stands ahead. -/
theorem row_at {p : List Int} (h : forestQ p) {k : Nat} {row : List It3} (hr : rowK p k (-1) 0 = some row) {pre post : List It3} {x : It3} (e : row = pre ++ x :: post) : (∃ i : Nat, x.1 = (i : Int) ∧ i < p.length) ∧ nx p x.1 = x.2.2 ∧ (x.2.2 < 0 ∨ ∃ y ∈ pre, y.1 = x.2.2) ∧ ∀ y ∈ pre, y.1 ≠ x.1 := by
  have hx : x ∈ row := by rw [e]; simp
  obtain ⟨h1, h2, -, -, -⟩ := rowK_el k (-1) 0 row hr x hx
  refine ⟨h1, h2, ?_, ?_⟩
  · rcases rowK_par k (-1) 0 row hr pre x post e with ⟨h3, -⟩ | ⟨pre1, y, mid, h3, h4, -, -⟩
    · exact Or.inl (by rw [h3]; decide)
    · exact Or.inr ⟨y, by rw [h3]; simp, h4⟩
  · have ha := rowK_apart h.2 k (-1) 0 row hr
    rw [e, List.pairwise_append] at ha
    exact fun y hy => (ha.2.2 y hy x (by simp)).1
def startsP (l : List PS) (p : List Int) : List Int := (List.range p.length).map fun i : Nat => V l p (i : Int)
theorem startsP_length (l : List PS) (p : List Int) : (startsP l p).length = p.length := by simp [startsP]
theorem startsP_at (l : List PS) (p : List Int) (i : Nat) (h : i < p.length) : (startsP l p).getD i 0 = V l p (i : Int) := by
  simp [startsP, List.getD_eq_getElem?_getD, h]
end Go.Proofs.Ythlekphkibeflaa.H
