/- The sum of any bytes, and any sum gone on with, are the document's, and the bytes handed in stay as they are: for byte rows of any length (beyond 2000 the law asks its examples alone). -/
import Derived.Test.YtknigpdglbknhaaC1
import Derived.Test.YtknigpdglbknhaaC2
import Derived.Test.YtknigpdglbknhaaMx1
namespace Go.Proofs.Ytknigpdglbknhaa.Pure
open Go.RowKit Go.Proofs.Ytknigpdglbknhaa.M Go.Proofs.YtknigpdglbknhaaW.PrintWords Go.Proofs.YtknigpdglbknhaaW.PrintLast Go.Proofs.Ytknigpdglbknhaa.H
theorem CheckSums : merkhetlaw03_CheckSums.Pure := by
  intro l0 a1 hmax _ hl ha
  obtain ⟨m, rfl, hm⟩ := bytes_nat l0 (fun x hx => wf_u8 (hl x hx))
  obtain ⟨a, rfl⟩ := Int.eq_ofNat_of_zero_le (wf_u32 ha).1
  have ha2 := (wf_u32 ha).2
  have ham : a < 4294967296 := by omega
  refine ⟨10 * m.length + 1, ?_⟩
  unfold merkhetlaw03_CheckSums.f
  rw [law03_fixed]
  rw [List.length_map] at *
  by_cases h : (m.length : Int) > 2000
  · rw [if_pos h]; rfl
  · rw [if_neg h]
    have hn : m.length < 9223372036854775807 := by omega
    simp only [Option.bind_some, if_true]
    rw [check_Sum_nat m hm, ref_Sum_nat m hm hn]
    simp only [Option.bind_some, if_true]
    rw [check_More_nat a m ham hm, ref_More_nat a m ham hm hn]
    simp only [Option.bind_some, if_true]
    simp
end Go.Proofs.Ytknigpdglbknhaa.Pure
