/- Numbers that are laid one behind the other, each in as many bytes as it takes, are there, each at its place: for any numbers and sizes (beyond 40 the law asks its examples alone). -/
import Derived.Test.YtknigpdglbknhaaH5
import Derived.Test.YtknigpdglbknhaaQC5a
import Derived.Test.YtknigpdglbknhaaQx1
set_option linter.unusedVariables false
namespace Go.Proofs.Ytknigpdglbknhaa.Pure
open Go.RowKit Go.Proofs.Ytknigpdglbknhaa.Q Go.Proofs.YtknigpdglbknhaaW.PrintWords Go.Proofs.YtknigpdglbknhaaW.PrintLast Go.Proofs.Ytknigpdglbknhaa.H

theorem size_in (S : List Int) (hS : ∀ x ∈ S, 0 ≤ x) (i : Nat) : 1 ≤ partSize S (i : Int) ∧ partSize S (i : Int) ≤ 8 := by
  unfold partSize
  split
  · rename_i h
    have hm : rd S (i : Int) ∈ S := by
      have hi : i < S.length := by omega
      have : rd S (i : Int) = S[i] := by simp [rd, List.getD_eq_getElem?_getD, List.getElem?_eq_getElem hi]
      rw [this]; exact List.getElem_mem hi
    have h0 := hS _ hm
    rw [Int.tmod_eq_emod_of_nonneg h0]
    omega
  · omega
def sz (S : List Int) (i : Nat) : Nat := (partSize S (i : Int)).toNat
theorem sz_of (S : List Int) (hS : ∀ x ∈ S, 0 ≤ x) (i : Nat) : partSize S (i : Int) = (sz S i : Int) ∧ 1 ≤ sz S i ∧ sz S i ≤ 8 := by
  have := size_in S hS i
  unfold sz
  omega
theorem cnt_sz (k : Nat) (h : k ≤ 8) : cnt (k : Int) = k := by unfold cnt; omega
theorem puts (S : List Int) (hS : ∀ x ∈ S, 0 ≤ x) : ∀ (l : List Nat) (i : Nat) (b : List Nat), b.length + 8 * l.length < 1000000 → partPuts S (rowB l) (i : Int) (rowB b) = some (rowB (b ++ blob (sz S) l i)) := by
  intro l
  induction l with
  | nil => intro i b _; simp [rowB, partPuts, blob]
  | cons n t ih =>
    intro i b hb
    obtain ⟨h1, h2, h3⟩ := sz_of S hS i
    simp only [List.length_cons] at hb
    rw [rowB_cons, partPuts, if_pos (by omega), h1, pack_Put_nat b n _ (by omega), Option.bind_some, show (i : Int) + 1 = ((i + 1 : Nat) : Int) by omega, cnt_sz _ h3, ih (i + 1) _ (by rw [List.length_append, nb_length]; omega)]
    simp [blob]
theorem bad_mod (n k : Nat) (h1 : 1 ≤ k) (h8 : k ≤ 8) (hn : n < 18446744073709551616) : partBad (n : Int) (k : Int) (((n % 256 ^ k : Nat) : Int), true) = false := by
  unfold partBad
  have hk : k = 1 ∨ k = 2 ∨ k = 3 ∨ k = 4 ∨ k = 5 ∨ k = 6 ∨ k = 7 ∨ k = 8 := by omega
  have key : ∀ j, 256 ^ k = 2 ^ j → j < 64 → 1 ≤ j → k < 8 → (if (k : Int) < 8 then (((n % 256 ^ k : Nat) : Int)) != Go.bits .and .u64 (n : Int) (256 ^ ((k : Int)).toNat - 1) else (((n % 256 ^ k : Nat) : Int)) != (n : Int)) = false := by
    intro j hj hj64 hj1 hk8
    have hp : (1 : Nat) ≤ 2 ^ j := Nat.one_le_two_pow
    have hlt : 2 ^ j ≤ 9223372036854775808 := Nat.le_trans (Nat.pow_le_pow_right (by decide) (show j ≤ 63 by omega)) (by decide)
    have e : ((256 : Int) ^ ((k : Int)).toNat - 1) = ((2 ^ j - 1 : Nat) : Int) := by
      rw [Int.toNat_natCast, ← hj]
      have h1 : (256 : Int) ^ k = ((256 ^ k : Nat) : Int) := by rw [Int.natCast_pow]; rfl
      rw [h1]
      rw [← hj] at hp
      generalize 256 ^ k = z at *
      omega
    rw [if_pos (by omega), e, u64_and_nat n (2 ^ j - 1) hn (by omega), Nat.and_two_pow_sub_one_eq_mod, hj]
    exact bne_self_eq_false _
  simp only [Bool.not_true, Bool.false_or]
  rcases hk with rfl | rfl | rfl | rfl | rfl | rfl | rfl | rfl
  · exact key 8 (by decide) (by decide) (by decide) (by decide)
  · exact key 16 (by decide) (by decide) (by decide) (by decide)
  · exact key 24 (by decide) (by decide) (by decide) (by decide)
  · exact key 32 (by decide) (by decide) (by decide) (by decide)
  · exact key 40 (by decide) (by decide) (by decide) (by decide)
  · exact key 48 (by decide) (by decide) (by decide) (by decide)
  · exact key 56 (by decide) (by decide) (by decide) (by decide)
  · rw [if_neg (by decide), show n % 256 ^ 8 = n from Nat.mod_eq_of_lt hn]; exact bne_self_eq_false _
theorem gets (K : Nat) (hK : 9 ≤ K) (S : List Int) (hS : ∀ x ∈ S, 0 ≤ x) : ∀ (l : List Nat) (i : Nat) (pre : List Nat), isB pre → (∀ n ∈ l, n < 18446744073709551616) → pre.length + 8 * l.length < 1000000 →
    partGets K (rowB (pre ++ blob (sz S) l i)) S (rowB l) (i : Int) (pre.length : Int) = some (some (((pre ++ blob (sz S) l i).length : Nat) : Int)) := by
  intro l
  induction l with
  | nil => intro i pre _ _ _; simp [rowB, partGets, blob]
  | cons n t ih =>
    intro i pre hp hn hl
    obtain ⟨h1, h2, h3⟩ := sz_of S hS i
    have hb := blob_length (sz S) (fun j => (sz_of S hS j).2.2) (n :: t) i
    have hB := blob_isB (sz S) (n :: t) i
    simp only [List.length_cons] at hl hb
    rw [rowB_cons n t, partGets, if_pos (by omega), h1, pack_Get_nat K hK _ _ _ (isB_append hp hB) (by rw [List.length_append]; omega), Option.bind_some, cnt_sz _ h3]
    unfold getR
    have e := getN_put pre (sz S i) n (blob (sz S) t (i + 1))
    rw [List.append_assoc, show nb (sz S i) n ++ blob (sz S) t (i + 1) = blob (sz S) (n :: t) i from rfl] at e
    rw [e]
    simp only []
    rw [bad_mod n (sz S i) h2 h3 (hn n (by simp)), if_neg (by decide)]
    have e2 : pre ++ blob (sz S) (n :: t) i = (pre ++ nb (sz S i) n) ++ blob (sz S) t (i + 1) := by rw [List.append_assoc]; rfl
    rw [e2]
    have e3 : wrap64 ((pre.length : Int) + (sz S i : Int)) = (((pre ++ nb (sz S i) n).length : Nat) : Int) := by
      rw [List.length_append, nb_length, w64 _ (by omega) (by omega)]; omega
    rw [e3, show (i : Int) + 1 = ((i + 1 : Nat) : Int) by omega]
    exact ih (i + 1) _ (isB_append hp (nb_isB _ _)) (fun x hx => hn x (by simp [hx])) (by rw [List.length_append, nb_length]; omega)
theorem PackParts : merkhetlaw02_PackParts.Pure := by
  intro l0 S hmax _ hl hmS _ hS
  have hS0 : ∀ x ∈ S, 0 ≤ x := fun x hx => by
    have := hS x hx
    simp [Lit.wf, IntKind.min, IntKind.max, IntKind.signed, IntKind.bits] at this; omega
  obtain ⟨l, rfl, hn⟩ : ∃ l : List Nat, l0 = rowB l ∧ ∀ n ∈ l, n < 18446744073709551616 := by
    have h2 : ∀ x ∈ l0, 0 ≤ x ∧ x < 18446744073709551616 := fun x hx => by
      have := hl x hx
      simp [Lit.wf, IntKind.min, IntKind.max, IntKind.signed, IntKind.bits] at this; omega
    refine ⟨l0.map Int.toNat, ?_, ?_⟩
    · rw [rowB, List.map_map]
      conv => lhs; rw [← List.map_id l0]
      apply List.map_congr_left
      intro x hx
      have := h2 x hx
      simp only [id_eq, Function.comp]
      omega
    · intro x hx
      obtain ⟨y, hy, rfl⟩ := List.mem_map.1 hx
      have := h2 y hy
      omega
  refine ⟨30, ?_⟩
  unfold merkhetlaw02_PackParts.f
  rw [law02_fixed]
  split
  · rfl
  · rename_i h
    rw [rowB_length] at h
    have h1 := puts S hS0 l 0 [] (by simp; omega)
    rw [List.nil_append] at h1
    rw [show ((0 : Nat) : Int) = 0 from rfl, show (rowB [] : List Int) = [] from rfl] at h1
    rw [h1, Option.bind_some]
    have h2 := gets 30 (by decide) S hS0 l 0 [] isB_nil hn (by simp; omega)
    rw [List.nil_append] at h2
    rw [show ((0 : Nat) : Int) = 0 from rfl, show ((([] : List Nat).length : Nat) : Int) = 0 from rfl] at h2
    rw [h2, rowB_length]
    simp
end Go.Proofs.Ytknigpdglbknhaa.Pure
