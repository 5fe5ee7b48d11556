/- Going back over the layers' edges: the first host that is met twice, and the weights between. No conditions. -/
import Derived.Test.YtacjlaiddnfpdaaH16
set_option linter.unusedVariables false
namespace Go.Proofs.Ytacjlaiddnfpdaa.H
open Classical in
theorem least_nat {p : Nat → Prop} {n : Nat} (h : p n) : ∃ m, p m ∧ m ≤ n ∧ ∀ j, j < m → ¬ p j := by
  induction n using Nat.strongRecOn with
  | _ n ih =>
    by_cases c : ∃ j, j < n ∧ p j
    · obtain ⟨j, hj, hp⟩ := c
      obtain ⟨m, h1, h2, h3⟩ := ih j hj hp
      exact ⟨m, h1, by omega, h3⟩
    · exact ⟨n, h, Nat.le_refl _, fun j hj hp => c ⟨j, hj, hp⟩⟩
/-- The first host that is met twice. -/
theorem bk_first {n : Nat} {es : List Ed} (ok : okE n es) {v : Int} (hv0 : 0 ≤ v) (hvn : v < (n : Int)) (hlt : L es n v < L es (n - 1) v) :
    ∃ i m, i < m ∧ m ≤ n ∧ bk es n v i = bk es n v m ∧ ∀ a b, a < b → b < m → bk es n v a ≠ bk es n v b := by
  obtain ⟨i, j, hij, hj, he⟩ := bk_twice ok hv0 hvn hlt
  obtain ⟨m, ⟨i', hi', he'⟩, hm, hno⟩ := least_nat (p := fun m => ∃ i, i < m ∧ bk es n v i = bk es n v m) (n := j) ⟨i, hij, he⟩
  exact ⟨i', m, hi', by omega, he', fun a b hab hb h => hno b hb ⟨a, hab, h⟩⟩
/-- The number of the edge by which one goes back. -/
def ix (es : List Ed) (n : Nat) (v : Int) (j : Nat) : Nat := (B es (n - j) (bk es n v j)).toNat
theorem ix_at {n : Nat} {es : List Ed} (ok : okE n es) {v : Int} (hv0 : 0 ≤ v) (hvn : v < (n : Int)) (hlt : L es n v < L es (n - 1) v) {j : Nat} (hj : j < n) :
    B es (n - j) (bk es n v j) = (ix es n v j : Int) ∧ ∃ h : ix es n v j < es.length, es[ix es n v j].t = bk es n v j ∧ es[ix es n v j].f = bk es n v (j + 1) ∧ L es (n - j) (bk es n v j) = L es (n - (j + 1)) (bk es n v (j + 1)) + es[ix es n v j].w := by
  obtain ⟨i, hi, h1, h2, h3, h4⟩ := bk_step ok hj (bk_low ok hv0 hvn hlt j hj).2
  have e : ix es n v j = i := by unfold ix; rw [h1]; rfl
  subst e
  exact ⟨h1, hi, h2, h3, h4⟩
/-- The weights of so many edges, from one on. -/
def wsum (es : List Ed) (n : Nat) (v : Int) (i : Nat) : Nat → Int
  | 0 => 0
  | d + 1 => wsum es n v i d + (es.getD (ix es n v (i + d)) ⟨0, 0, 0⟩).w
theorem wsum_eq {n : Nat} {es : List Ed} (ok : okE n es) {v : Int} (hv0 : 0 ≤ v) (hvn : v < (n : Int)) (hlt : L es n v < L es (n - 1) v) (i : Nat) : ∀ d, i + d ≤ n → wsum es n v i d = L es (n - i) (bk es n v i) - L es (n - (i + d)) (bk es n v (i + d))
  | 0, _ => by show (0 : Int) = _; rw [Nat.add_zero]; omega
  | d + 1, h => by
    have ih := wsum_eq ok hv0 hvn hlt i d (by omega)
    obtain ⟨_, h1, h2, h3, h4⟩ := ix_at ok hv0 hvn hlt (show i + d < n by omega)
    show wsum es n v i d + (es.getD (ix es n v (i + d)) ⟨0, 0, 0⟩).w = _
    have e : es.getD (ix es n v (i + d)) ⟨0, 0, 0⟩ = es[ix es n v (i + d)] := by rw [List.getD_eq_getElem?_getD, List.getElem?_eq_getElem h1]; rfl
    rw [e, ih, show i + (d + 1) = i + d + 1 by omega]
    omega
/-- Round the first host that is met twice they are below 0 together. -/
theorem wsum_below {n : Nat} {es : List Ed} (ok : okE n es) {v : Int} (hv0 : 0 ≤ v) (hvn : v < (n : Int)) (hlt : L es n v < L es (n - 1) v) {i m : Nat} (him : i < m) (hm : m ≤ n) (he : bk es n v i = bk es n v m) : wsum es n v i (m - i) < 0 := by
  have h1 := wsum_eq ok hv0 hvn hlt i (m - i) (by omega)
  have h2 := bk_below ok hv0 hvn hlt him hm he
  rw [show i + (m - i) = m by omega] at h1
  omega
end Go.Proofs.Ytacjlaiddnfpdaa.H
