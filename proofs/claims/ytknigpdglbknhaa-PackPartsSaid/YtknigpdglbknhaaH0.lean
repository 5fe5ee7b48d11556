/- Small lemmas of this project's own on what walks meet: rows that a conversion of a constant makes. -/
import Derived.Test.YtknigpdglbknhaaWWords
import Derived.Test.YtknigpdglbknhaaWMore
import Derived.Lib.SlBytesConst
set_option linter.unusedVariables false
set_option linter.unusedSimpArgs false
namespace Go.Proofs.Ytknigpdglbknhaa.H
open Go.RowKit Go.Proofs.YtknigpdglbknhaaW.PrintWords Go.Proofs.YtknigpdglbknhaaW.PrintMore

/-- A row that has just been made, whatever its mark, is read as its numbers. -/
theorem C_new (k : IntKind) (w : World) (l : List Int) (C : Array Value) (t : TypeId) (fr : Nat × Nat) (hC : C = (l.map fun x => Value.int k x).toArray) (hl : l.length ≤ 9223372036854775807) :
    Kd.C (Kd.int k) (w.alloc (.cells C t fr)) (some ⟨w.heap.size, 0, none⟩) l.length l := by
  refine Kd.C_of_reads (d := (0 : Int)) (h1 := fun _ => rfl) ⟨rfl, hl, fun _ => ⟨_, rfl, fun j hj => ?_⟩⟩
  rw [add_plain, cell_of_row _ _ _ C t fr (heap_alloc_new _ _), hC]
  simp [List.getElem?_eq_getElem hj, List.getD_eq_getElem?_getD]
/-- A block below stays, whatever is made above. -/
theorem below_alloc1 (w : World) (o : Obj) : Below w.heap.size w (w.alloc o) := below_alloc (Below.refl _ _) o
/-- A number that is in range stays as it is. -/
theorem u64_id (x : Int) (h0 : 0 ≤ x) (h1 : x < 18446744073709551616) : IntKind.u64.wrap x = x := by
  have e : IntKind.u64.wrap x = x % 18446744073709551616 := by simp [IntKind.wrap, IntKind.bits, IntKind.signed]
  rw [e]; omega
end Go.Proofs.Ytknigpdglbknhaa.H
