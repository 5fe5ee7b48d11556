/- Layer 6's sum, the program's. -/
import Derived.Test.YtdpodjgggicaoaaH9
import Derived.Test.YtdpodjgggicaoaaSTC0
import Derived.Test.YtdpodjgggicaoaaSTC4
import Derived.Test.YtdpodjgggicaoaaSTx1
set_option linter.unusedVariables false
set_option linter.unusedSimpArgs false
namespace Go.Proofs.Ytdpodjgggicaoaa.ST
open Go.RowKit Go.Proofs.YtdpodjgggicaoaaW.PrintWords Go.Proofs.YtdpodjgggicaoaaW.PrintLast Go.Proofs.YtdpodjgggicaoaaW.PrintMore Go.Proofs.Ytdpodjgggicaoaa.H

theorem w64f (x : Int) (h0 : 0 ≤ x) (h1 : x ≤ 9223372036854775807) : wrap64 x = x := by unfold wrap64; omega
theorem ev_eqf {α : Type} {g : Nat → Option α} {r r' : α} (h : Ev g r) (e : r = r') : Ev g r' := e ▸ h
theorem frame_sum_nat (b : List Nat) (hb : isB b) (hl : b.length < 65536) : frame_sum.f (rowB b) = some ((fsum b : Nat) : Int) := by
  have e : IntKind.u64.wrap ((rowB b).length : Int) = ((b.length : Nat) : Int) := by rw [wu64, rowB_length]; omega
  have h1 := check_Sum_nat (nb 2 b.length) (nb_isB _ _)
  have h2 := check_More_nat (sumFrom 0 (nb 2 b.length)) b (sumFrom_small _ _ (by decide) (nb_isB _ _)) hb
  have hp := pack_Put_nat [] b.length 2 (by decide)
  rw [show (rowB [] : List Int) = [] from rfl, List.nil_append, show cnt 2 = 2 from rfl] at hp
  unfold frame_sum.f
  rw [e, hp, Option.bind_some, show rowB (nb 2 b.length) = (nb 2 b.length).map (fun n : Nat => (n : Int)) from rfl, h1, Option.bind_some, show rowB b = b.map (fun n : Nat => (n : Int)) from rfl, h2, Option.bind_some, ← sumFrom_append]
  rfl
end Go.Proofs.Ytdpodjgggicaoaa.ST
