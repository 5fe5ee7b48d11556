import Derived.Test.YtknigpdglbknhaaRC5
import Derived.Test.YtknigpdglbknhaaRx4
set_option linter.unusedVariables false
namespace Go.Proofs.Ytknigpdglbknhaa.Pure
open Go.RowKit Go.Proofs.Ytknigpdglbknhaa.R Go.Proofs.YtknigpdglbknhaaW.PrintWords Go.Proofs.YtknigpdglbknhaaW.PrintLast Go.Proofs.Ytknigpdglbknhaa.H
theorem PackReads : merkhetlaw02_PackReads.Pure := by
  intro l0 a1 hmax _ hl ha1
  obtain ⟨b, rfl, hb⟩ := row_bytes l0 hl
  refine ⟨30, ?_⟩
  unfold merkhetlaw02_PackReads.f
  rw [rowB_length]
  by_cases h : (b.length : Int) > 200
  · rw [if_pos h, law02_fixed]
    simp only [Option.bind_some]
  · rw [if_neg h, pack_GetText_nat 30 (by omega) b a1 hb (by omega)]
    simp only [Option.bind_some]
    rw [strOf_rowB, ref_GetText_nat 30 (by omega) b a1 hb (by omega)]
    simp only [Option.bind_some]
    have e1 : ((getTR b a1).2 != (getTR b a1).2) = false := by simp
    rw [if_pos trivial, e1, show (30 : Nat) = 29 + 1 from rfl, merkhetlaw02_PackReads.j0, if_neg (by decide), law02_fixed]
    simp only [Option.bind_some, if_true]
    cases hg : getT b a1 with
    | none =>
      have e : getTR b a1 = (⟨#[]⟩, false) := by unfold getTR; rw [hg]
      rw [e]
      simp
    | some s =>
      have e : getTR b a1 = (txt s, true) := by unfold getTR; rw [hg]
      obtain ⟨h0, h1, h2, h3⟩ := getT_field hg
      obtain ⟨p, rfl⟩ := Int.eq_ofNat_of_zero_le h0
      have w2 : wrap64 ((p : Int) + 17) = ((p + 17 : Nat) : Int) := w64 _ (by omega) (by omega)
      have hs : isB s := by
        have hff : isB (field s) := h3 ▸ isB_take (isB_drop hb _) 17
        unfold field at hff
        rw [if_pos h2] at hff
        exact isB_left (fun x hx => hff x (List.mem_cons_of_mem _ hx))
      have hp := pack_PutText_nat [] s hs (by decide)
      rw [show (rowB [] : List Int) = [] from rfl, List.nil_append] at hp
      rw [e, if_pos rfl, hp, Option.bind_some]
      rw [w2, if_pos (by omega), if_pos (by omega), rowB_length, if_pos (by omega), Int.toNat_natCast, Int.toNat_natCast, rowB_take, rowB_drop, strOf_rowB, strOf_rowB,
        show (b.take (p + 17)).drop p = (b.drop p).take 17 by rw [List.drop_take]; congr 1; omega]
      rw [Int.toNat_natCast] at h3
      rw [h3]
      simp
end Go.Proofs.Ytknigpdglbknhaa.Pure
