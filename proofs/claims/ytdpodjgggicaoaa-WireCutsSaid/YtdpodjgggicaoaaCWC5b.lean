/- Layer 2's texts, the program's: reading a field. -/
import Derived.Test.YtdpodjgggicaoaaCWC4
import Derived.Test.YtdpodjgggicaoaaCWx5
set_option linter.unusedVariables false
set_option linter.unusedSimpArgs false
namespace Go.Proofs.Ytdpodjgggicaoaa.CW
open Go.RowKit Go.Proofs.YtdpodjgggicaoaaW.PrintWords Go.Proofs.YtdpodjgggicaoaaW.PrintLast Go.Proofs.YtdpodjgggicaoaaW.PrintMore Go.Proofs.Ytdpodjgggicaoaa.H

def getTR (b : List Nat) (at_ : Int) : ByteArray × Bool := match getT b at_ with
  | some s => (txt s, true)
  | none => (⟨#[]⟩, false)
theorem tail17 (b : List Nat) (p : Nat) (h : p + 17 ≤ b.length) : (b.take (p + 17)).drop (p + 1) = ((b.drop p).take 17).tail ∧ ((b.drop p).take 17) = b.getD p 0 :: ((b.drop p).take 17).tail := by
  have h1 : b.drop p = b.getD p 0 :: b.drop (p + 1) := by
    rw [List.drop_eq_getElem_cons (by omega), List.getD_eq_getElem?_getD, List.getElem?_eq_getElem (by omega)]; rfl
  rw [h1]
  constructor
  · rw [List.drop_take]; simp
  · simp
theorem any_zero (l : List Nat) : ((rowB l).any fun c => c != 0) = !(decide (l = List.replicate l.length 0)) := by
  induction l with
  | nil => rfl
  | cons x r ih =>
    simp only [rowB_cons, List.any_cons, ih, List.length_cons, List.replicate_succ, List.cons.injEq]
    by_cases hx : x = 0
    · subst hx; simp
    · have : ((x : Int) != 0) = true := by rw [bne_iff_ne]; omega
      rw [this]
      simp [hx]
theorem pack_GetText_nat (K : Nat) (hK : 1 ≤ K) (b : List Nat) (at_ : Int) (hb : isB b) (hl : b.length < 4611686018427387904) : pack_GetText.f K (rowB b) at_ = some (getTR b at_) := by
  refine at_rounds (pack_GetText.mono (rowB b) at_) hK ?_
  unfold pack_GetText.f
  have ht := pack_there_nat b at_ 17 hl
  rw [show ((17 : Nat) : Int) = 17 from rfl] at ht
  rw [ht]
  simp only [Option.bind_some]
  unfold getTR getT
  by_cases h : 0 ≤ at_ ∧ at_ + 17 ≤ (b.length : Int)
  · rw [decide_eq_true h, if_pos rfl, if_pos h.1, rowB_length, if_pos (by omega), if_pos h]
    obtain ⟨p, rfl⟩ := Int.eq_ofNat_of_zero_le h.1
    have hp : p + 17 ≤ b.length := by omega
    have hy := getD_lt hb p
    have w1 : wrap64 ((p : Int) + 1) = ((p + 1 : Nat) : Int) := w64 _ (by omega) (by omega)
    have w2 : wrap64 ((p : Int) + 17) = ((p + 17 : Nat) : Int) := w64 _ (by omega) (by omega)
    have w3 : wrap64 ((b.getD p 0 : Nat) : Int) = ((b.getD p 0 : Nat) : Int) := w64 _ (by omega) (by omega)
    obtain ⟨t1, t2⟩ := tail17 b p hp
    rw [rd_rowB b p (by omega), Int.toNat_natCast, pack_GetText.j0]
    generalize hT : ((b.drop p).take 17).tail = T at *
    generalize hY : b.getD p 0 = y at *
    have hTl : T.length = 16 := by rw [← hT, List.length_tail, List.length_take, List.length_drop]; omega
    by_cases hy16 : y ≤ 16
    · rw [show decide (((y : Nat) : Int) > 16) = false from decide_eq_false (by omega), if_neg (by decide), w1, w2, if_pos (by omega), if_pos (by omega), rowB_length, if_pos (by omega), if_pos (by omega), if_pos (by omega),
        rd_rowB b p (by omega), hY, w3, if_pos (by omega), Int.toNat_natCast, Int.toNat_natCast, Int.toNat_natCast, rowB_take, rowB_drop, t1, rowB_length, hTl, if_pos (by omega), rowB_drop, rowB_take, strOf_rowB]
      unfold slices_ContainsFunc_byte_byte.f
      rw [if_pos rfl]
      simp only [Option.bind_some]
      rw [any_zero, List.length_drop, hTl, t2]
      have hf : field (T.take y) = y :: T.take y ++ List.replicate (16 - y) 0 := by
        unfold field
        rw [List.length_take, hTl, Nat.min_eq_left hy16, if_pos hy16]
      by_cases hz : T.drop y = List.replicate (16 - y) 0
      · rw [decide_eq_true hz, if_neg (by decide), if_pos ⟨hy16, by
          rw [hf, ← hz, List.cons_append, List.take_append_drop]⟩]
      · rw [decide_eq_false hz, if_pos (by decide), if_neg]
        rintro ⟨_, e⟩
        rw [hf, List.cons_append] at e
        have e2 := (List.cons.inj e).2
        apply hz
        have e3 := congrArg (List.drop y) e2
        rw [List.drop_left' (by rw [List.length_take, hTl]; omega)] at e3
        exact e3
    · rw [show decide (((y : Nat) : Int) > 16) = true from decide_eq_true (by omega), if_pos rfl, if_neg (fun hh => hy16 hh.1)]
  · rw [decide_eq_false h, if_neg (by decide), if_neg h, pack_GetText.j0, if_pos rfl]
end Go.Proofs.Ytdpodjgggicaoaa.CW
