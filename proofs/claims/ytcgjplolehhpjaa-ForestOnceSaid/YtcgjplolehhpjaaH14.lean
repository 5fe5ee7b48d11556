/- What layer 10's map holds: of each number the place at which it stands first. -/
import Derived.Test.YtcgjplolehhpjaaH12
import Derived.Maps.OwnSet
set_option linter.unusedVariables false
namespace Go.Proofs.Ytcgjplolehhpjaa.H
open Go.RowKit Go.Maps
structure MapD (q : IntKind) (xs : List Int) (D : DataW Unit) : Prop where
  isMap : IsMap D
  has : ∀ x, Maps.has D (.int q x) = decide (x ∈ xs)
  at_ : ∀ x, x ∈ xs → D.atKey (.int q x) (.lit (.int .i64 0)) = .lit (.int .i64 (firstI xs x))
theorem MapD_nil (q : IntKind) : MapD q [] (.map []) := ⟨isMap_empty, fun x => rfl, fun x h => by simp at h⟩
theorem MapD_old {q : IntKind} {xs : List Int} {D : DataW Unit} (h : MapD q xs D) {y : Int} (hy : y ∈ xs) : MapD q (xs ++ [y]) D :=
  ⟨h.isMap, fun x => by
    rw [h.has, decide_eq_decide]
    simp only [List.mem_append, List.mem_singleton]
    exact ⟨.inl, fun h => h.elim id (fun e => e ▸ hy)⟩, fun x hx => by
    have hx2 : x ∈ xs := by
      rcases List.mem_append.1 hx with h1 | h1
      · exact h1
      · rw [List.mem_singleton.1 h1]; exact hy
    rw [h.at_ x hx2, firstI_snoc, if_pos hx2]⟩
theorem MapD_new {q : IntKind} {xs : List Int} {D : DataW Unit} (h : MapD q xs D) {y : Int} (hy : ¬ y ∈ xs) : MapD q (xs ++ [y]) (D.put (.int q y) (.lit (.int .i64 (xs.length : Int)))) := by
  have hk : WideAt.IsKeyLit (.int q y) := by simp [WideAt.IsKeyLit]
  refine ⟨h.isMap.put _ _, fun x => ?_, fun x hx => ?_⟩
  · by_cases e : x = y
    · subst e
      rw [has_put_same h.isMap hk]
      simp
    · rw [has_put_other (by simpa using e), h.has, decide_eq_decide]
      simp [e]
  · by_cases e : x = y
    · subst e
      rw [atKey_put_same h.isMap hk, firstI_snoc, if_neg hy, if_pos rfl]
    · have hx2 : x ∈ xs := by
        rcases List.mem_append.1 hx with h1 | h1
        · exact h1
        · exact absurd (List.mem_singleton.1 h1) e
      rw [atKey_put_other (by simpa using e), h.at_ x hx2, firstI_snoc, if_pos hx2]
end Go.Proofs.Ytcgjplolehhpjaa.H
