/- Layer 6's Put and Get, the program's: they are the plain ones of H9. -/
import Derived.Test.YtdpodjgggicaoaaH9
import Derived.Test.YtdpodjgggicaoaaFC0
import Derived.Test.YtdpodjgggicaoaaFC4
import Derived.Test.YtdpodjgggicaoaaFx1
import Derived.Test.YtdpodjgggicaoaaFx2
set_option linter.unusedVariables false
set_option linter.unusedSimpArgs false
namespace Go.Proofs.Ytdpodjgggicaoaa.F
open Go.RowKit Go.Proofs.YtdpodjgggicaoaaW.PrintWords Go.Proofs.YtdpodjgggicaoaaW.PrintLast Go.Proofs.YtdpodjgggicaoaaW.PrintMore Go.Proofs.Ytdpodjgggicaoaa.H

theorem w64f (x : Int) (h0 : 0 ≤ x) (h1 : x ≤ 9223372036854775807) : wrap64 x = x := by unfold wrap64; omega
theorem ev_eqf {α : Type} {g : Nat → Option α} {r r' : α} (h : Ev g r) (e : r = r') : Ev g r' := e ▸ h
theorem frame_sum_nat (b : List Nat) (hb : isB b) (hl : b.length < 65536) : frame_sum.f (rowB b) = some ((fsum b : Nat) : Int) := by
  have e : IntKind.u64.wrap ((rowB b).length : Int) = ((b.length : Nat) : Int) := by rw [wu64, rowB_length]; omega
  have h1 := check_Sum_nat (nb 2 b.length) (nb_isB _ _)
  have h2 := check_More_nat (sumFrom 0 (nb 2 b.length)) b (sumFrom_small _ _ (by decide) (nb_isB _ _)) hb
  have hp := pack_Put_nat [] b.length 2 (by decide)
  rw [show (rowB [] : List Int) = [] from rfl, List.nil_append, show cnt 2 = 2 from rfl] at hp
  unfold frame_sum.f
  rw [e, hp, Option.bind_some, show rowB (nb 2 b.length) = (nb 2 b.length).map (fun n : Nat => (n : Int)) from rfl, h1, Option.bind_some, show rowB b = b.map (fun n : Nat => (n : Int)) from rfl, h2, Option.bind_some, ← sumFrom_append]
  rfl
theorem frame_Put_ev (b : List Nat) (hb : isB b) : Ev (fun k => frame_Put.f k (rowB b)) (rowB (framePut b).1, (framePut b).2) := by
  have jt : Ev (fun k => frame_Put.j0 k (rowB b) true) (([] : List Int), (1 : Int)) := Ev.step (f := fun _ => some ([], 1)) (fun k => by rw [frame_Put.j0, if_pos rfl]) (Ev.now _)
  unfold framePut
  by_cases c1 : (b.length : Int) < 1
  · rw [if_neg (by omega)]
    exact Ev.congr (f := fun k => frame_Put.j0 k (rowB b) true) (fun k => by rw [frame_Put.f, rowB_length, if_pos c1]) jt
  by_cases c2 : (b.length : Int) > 2406
  · rw [if_neg (by omega)]
    exact Ev.congr (f := fun k => frame_Put.j0 k (rowB b) true) (fun k => by rw [frame_Put.f, rowB_length, if_neg c1, decide_eq_true c2]) jt
  rw [if_pos ⟨by omega, by omega⟩]
  refine Ev.congr (f := fun k => frame_Put.j0 k (rowB b) false) (fun k => by rw [frame_Put.f, rowB_length, if_neg c1, decide_eq_false c2]) ?_
  have e : IntKind.u64.wrap ((rowB b).length : Int) = ((b.length : Nat) : Int) := by rw [wu64, rowB_length]; omega
  have es : IntKind.u64.wrap ((fsum b : Nat) : Int) = ((fsum b : Nat) : Int) := by have := fsum_lt b hb; rw [wu64]; omega
  have hp := pack_Put_nat [] b.length 2 (by decide)
  rw [show (rowB [] : List Int) = [] from rfl, List.nil_append, show cnt 2 = 2 from rfl] at hp
  refine Ev.step (f := fun _ => some (rowB (nb 2 b.length ++ nb 4 (fsum b) ++ b), 0)) (fun k => ?_) (Ev.now _)
  rw [frame_Put.j0, if_neg (by decide), e, hp, Option.bind_some, frame_sum_nat b hb (by omega), Option.bind_some, es, pack_Put_nat _ _ _ (by rw [nb_length]; decide), Option.bind_some, show cnt 4 = 4 from rfl, rowB_length, rowB_length, if_pos (by simp only [List.length_append, nb_length]; omega), ← rowB_append]
theorem law06_fixed_ev : Ev (fun k => merkhetlaw06_fixed.f k) true := by
  have h := frame_Put_ev [97] (fun x hx => by simp at hx; omega)
  have e : framePut [97] = (nb 2 1 ++ nb 4 (fsum [97]) ++ [97], 0) := by unfold framePut; rw [if_pos (by decide)]; rfl
  rw [e] at h
  refine Ev.bind h (Ev.congr (fun k => ?_) (Ev.now true))
  have hl : (rowB (nb 2 1 ++ nb 4 (fsum [97]) ++ [97])).length = 7 := by rw [rowB_length]; simp only [List.length_append, nb_length]; rfl
  have r0 : rd (rowB (nb 2 1 ++ nb 4 (fsum [97]) ++ [97])) 0 = 1 := rfl
  have r1 : rd (rowB (nb 2 1 ++ nb 4 (fsum [97]) ++ [97])) 1 = 0 := rfl
  have r6 : rd (rowB (nb 2 1 ++ nb 4 (fsum [97]) ++ [97])) 6 = 97 := rfl
  simp only []
  rw [hl, if_pos trivial, if_pos (by decide), if_pos (by decide), r0, if_pos rfl, if_pos (by decide), r1, if_pos rfl, if_pos (by decide), r6]
  rfl
end Go.Proofs.Ytdpodjgggicaoaa.F
