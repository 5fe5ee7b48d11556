/- Rows of numbers of the call's own, cell by cell; what a row is while it is filled by doubling. -/
import Derived.Test.YtdpodjgggicaoaaWWordss
import Derived.Test.YtdpodjgggicaoaaWMores
import Derived.Laws.CopyOwn
set_option linter.unusedVariables false
namespace Go.Proofs.Ytdpodjgggicaoaa.H
open Go.RowKit Go.Proofs.YtdpodjgggicaoaaW.PrintWords Go.Proofs.YtdpodjgggicaoaaW.PrintMore
theorem R_unpack {k : IntKind} {E : Nat} {w : World} {base : Nat} {ok : Nat → Prop} {v : Value} {xs : List Int} (h : (Kd.int k).R E w base ok v xs) (hp : 0 < xs.length) :
    ∃ g cap, ∃ cur : List Value, v = .slice (some ⟨g, 0, none⟩) xs.length cap ∧ base ≤ g ∧ w.heap[g]? = some (.cells cur.toArray E (0, 0)) ∧ xs.length ≤ cap ∧ cap ≤ maxLen ∧ cur.length = cap ∧ cur.take xs.length = xs.map (Value.int k) := by
  obtain ⟨h1, h2⟩ := Kd.own_of_R h
  rcases h2 with ⟨_, h0⟩ | ⟨g, cap, cur, rfl, hb, hh, hnc, hcm, hsz, htk⟩
  · omega
  · refine ⟨g, cap, cur.toList, rfl, hb, by simpa using hh, hnc, hcm, by simpa using hsz, ?_⟩
    rw [Nat.mul_one] at htk
    exact htk
structure repSt (k : IntKind) (E : Nat) (w0 w : World) (g cap m : Nat) (x : Int) : Prop where
  below : Below w0.heap.size w0 w
  far : w0.heap.size ≤ g
  max : cap ≤ maxLen
  row : ∃ cur : List Value, w.heap[g]? = some (.cells cur.toArray E (0, 0)) ∧ cur.length = cap ∧ cur.take m = List.replicate m (Value.int k x)
end Go.Proofs.Ytdpodjgggicaoaa.H
