/- The sum of bytes is that of their first ones, gone on with the others, wherever they are parted: for byte rows of any length (beyond 2000 the law asks its examples alone). -/
import Derived.Test.YtknigpdglbknhaaC2
import Derived.Test.YtknigpdglbknhaaMx2
namespace Go.Proofs.Ytknigpdglbknhaa.Pure
open Go.RowKit Go.Proofs.Ytknigpdglbknhaa.M Go.Proofs.YtknigpdglbknhaaW.PrintWords Go.Proofs.YtknigpdglbknhaaW.PrintLast Go.Proofs.YtknigpdglbknhaaW.PrintMore Go.Proofs.Ytknigpdglbknhaa.H
theorem CheckParts : merkhetlaw03_CheckParts.Pure := by
  intro l0 a1 hmax _ hl ha
  obtain ⟨m, rfl, hm⟩ := bytes_nat l0 (fun x hx => wf_u8 (hl x hx))
  have ha2 := wf_u16 ha
  unfold merkhetlaw03_CheckParts.f
  rw [law03_fixed]
  rw [List.length_map] at *
  by_cases h : (m.length : Int) > 2000
  · rw [if_pos h]; rfl
  · rw [if_neg h]
    simp only [Option.bind_some, if_true]
    have hw : wrap64 a1 = a1 := by unfold wrap64; omega
    rw [hw]
    obtain ⟨k, hk, hkm⟩ : ∃ k : Nat, mn a1 (m.length : Int) = (k : Int) ∧ k ≤ m.length := by
      refine ⟨(mn a1 (m.length : Int)).toNat, ?_, ?_⟩ <;> unfold mn <;> split <;> omega
    rw [hk, check_Sum_nat m hm]
    simp only [Option.bind_some, Int.toNat_natCast]
    rw [if_pos (by omega), if_pos (by omega), ← List.map_take, ← List.map_drop,
      check_Sum_nat (m.take k) (fun x hx => hm x (List.mem_of_mem_take hx))]
    simp only [Option.bind_some]
    have h1 : sumFrom 0 (m.take k) < 4294967296 := sumFrom_lt 0 _ (by decide) (fun x hx => hm x (List.mem_of_mem_take hx))
    rw [check_More_nat _ (m.drop k) h1 (fun x hx => hm x (List.mem_of_mem_drop hx)), ← sumFrom_append, List.take_append_drop]
    simp
end Go.Proofs.Ytknigpdglbknhaa.Pure
