/- How arguments of composed types are opened: whatever the reader reads is a value of the print's kinds. -/
import Derived.Test.YtdpodjgggicaoaaWWordst
import Derived.Deep.Slices
import Derived.ChangeSame
import Derived.ChangeArms
import Derived.WideShapes
import Derived.Laws.IdiomArrays
set_option linter.unusedVariables false
namespace Go.Proofs.Ytdpodjgggicaoaa.H
open Go.RowKit Go.Proofs.YtdpodjgggicaoaaW.PrintWords Go.ChangeShapes Go.WideShapes Go.Deep
structure Opens {α : Type} (P : Program) (W : World) (d : Kd α) (t : TypeId) (wf : α → Prop) : Prop where
  sz : P.cellsOf t = d.sz
  op : ∀ {H : Type} (enc : TypeId × Value → H) (base : Nat) (spare : Nat → Bool) (held : Bool) (fuel : Nat) (cs : List Value) (x : DataW H × List MemPlace), DataW.trod enc P W base spare held fuel t cs = some x → ∃ y, d.K W y cs ∧ wf y
section
variable {P : Program} {W : World} {t e : TypeId}
theorem opens_int {k : IntKind} (ht : P.underlying t = some (.int k)) (hc : P.cellsOf t = 1) : Opens P W (Kd.int k) t (fun n => (Lit.int k n).wf = true) :=
  ⟨hc, fun enc base spare held fuel cs x h => by
    obtain ⟨n, hcs, _, hw⟩ := DataW.trod_int ht h
    exact ⟨n, hcs, hw⟩⟩
theorem rows_of {α : Type} {d : Kd α} {wf : α → Prop} {H : Type} {enc : TypeId × Value → H} {base : Nat} {spare : Nat → Bool} {held : Bool} {n : Nat} (ho : Opens P W d e wf) {a : Addr} {len cap m : Nat} {D : Nat → DataW H} {Pl : Nat → List MemPlace} (hlm : len ≤ m)
    (hi : ∀ i, i < m → ∃ cs', W.cells? base (a.add (i * P.cellsOf e)) (P.cellsOf e) = some cs' ∧ DataW.trod enc P W base spare held n e cs' = some (D i, Pl i)) :
    ∃ l : List α, l.length = len ∧ (∀ y ∈ l, wf y) ∧ ∀ j y, l[j]? = some y → ∃ c, c.length = d.sz ∧ d.K W y c ∧ ∀ q u, c[q]? = some u → W.cell? (a.add (j * d.sz + q)) = some u := by
  have hex : ∀ i, i < len → ∃ y c, d.K W y c ∧ wf y ∧ c.length = d.sz ∧ ∀ q u, c[q]? = some u → W.cell? (a.add (i * d.sz + q)) = some u := by
    intro i hil
    obtain ⟨cs', hc, ht'⟩ := hi i (by omega)
    obtain ⟨y, hK, hw⟩ := ho.op enc base spare held n cs' _ ht'
    obtain ⟨_, hcl, hat⟩ := World.cells?_some hc
    rw [ho.sz] at hcl hat
    refine ⟨y, cs', hK, hw, hcl, fun q u hq => ?_⟩
    have hql : q < cs'.length := (List.getElem?_eq_some_iff.1 hq).1
    have := hat (i := q) (by omega)
    rw [← Go.Deep.add_add, this]
    exact hq
  clear hi
  induction len with
  | zero => exact ⟨[], rfl, fun y hy => by simp at hy, fun j y hj => by simp at hj⟩
  | succ len ih =>
    obtain ⟨l, hl, hw, hr⟩ := ih (by omega) (fun i hil => hex i (by omega))
    obtain ⟨y, c, hK, hwy, hcl, hat⟩ := hex len (by omega)
    refine ⟨l ++ [y], by simp [hl], ?_, ?_⟩
    · intro z hz
      rcases List.mem_append.1 hz with h | h
      · exact hw z h
      · rw [List.mem_singleton.1 h]; exact hwy
    · intro j z hj
      by_cases hjl : j < l.length
      · rw [List.getElem?_append_left hjl] at hj
        exact hr j z hj
      · rw [List.getElem?_append_right (by omega)] at hj
        have hj0 : j - l.length = 0 := by
          rcases Nat.eq_zero_or_pos (j - l.length) with h | h
          · exact h
          · rw [List.getElem?_eq_none (by simp; omega)] at hj; simp at hj
        rw [hj0] at hj
        simp at hj
        subst hj
        have : j = len := by omega
        subst this
        exact ⟨c, hcl, hK, hat⟩
theorem opens_slice {α : Type} {d : Kd α} {wf : α → Prop} (ht : P.underlying t = some (.slice e)) (hc : P.cellsOf t = 1) (ho : Opens P W d e wf) : Opens P W (Kd.slice e d) t (fun l => ∀ y ∈ l, wf y) :=
  ⟨hc, fun enc base spare held fuel cs x h => by
    rcases open_slice ht h with ⟨hcs, _⟩ | ⟨a, len, cap, m, n, D, Pl, hcs, hb, hl, hm, hmm, hx, hi⟩
    · exact ⟨[], ⟨none, 0, hcs, Nat.le_refl _, Kd.C_nil _ _⟩, fun y hy => by simp at hy⟩
    · obtain ⟨l, hll, hw, hr⟩ := rows_of ho (len := len) (cap := cap) (by rw [hmm]; split <;> omega) hi
      subst hll
      exact ⟨l, ⟨some a, cap, hcs, hl, ⟨rfl, Nat.le_trans hl hm, fun _ => ⟨a, rfl, fun j p hj => hr j p hj⟩⟩⟩, hw⟩⟩
theorem open_sl {α : Type} {d : Kd α} {wf : α → Prop} {H : Type} {enc : TypeId × Value → H} {r : Reach} {b base : Nat} {spare : Nat → Bool} {held : Bool} {v : Value} {dd : DataW H} {ps : List MemPlace} (ht : P.underlying t = some (.slice e)) (ho : Opens P W d e wf)
    (hv : Value.okWide P W r b t v) (h : DataW.Trod enc P W base spare held t v dd ps) : ∃ (A : Option Addr) (l : List α) (c : Nat), v = .slice A l.length c ∧ d.C W A l.length l ∧ l.length ≤ c ∧ ∀ y ∈ l, wf y := by
  obtain ⟨A, len, cap, rfl⟩ := okWide_slice ht hv
  obtain ⟨fuel, hf⟩ := h
  rcases open_slice ht hf with ⟨hcs, _⟩ | ⟨a, len', cap', m, n, D, Pl, hcs, hb, hl, hm, hmm, hx, hi⟩
  · simp [Value.cells] at hcs
    obtain ⟨rfl, rfl, rfl⟩ := hcs
    exact ⟨none, [], 0, rfl, Kd.C_nil _ _, Nat.le_refl _, fun y hy => by simp at hy⟩
  · simp [Value.cells] at hcs
    obtain ⟨rfl, rfl, rfl⟩ := hcs
    obtain ⟨l, hll, hw, hr⟩ := rows_of ho (len := len) (cap := cap) (by rw [hmm]; split <;> omega) hi
    subst hll
    exact ⟨some a, l, cap, rfl, ⟨rfl, Nat.le_trans hl hm, fun _ => ⟨a, rfl, fun j p hj => hr j p hj⟩⟩, hl, hw⟩
end
end Go.Proofs.Ytdpodjgggicaoaa.H
