/- Rows of numbers of the call's own, cell by cell; what a row is while it is filled by doubling. -/
import Derived.Test.YtacjlaiddnfpdaaWWords
import Derived.Test.YtacjlaiddnfpdaaWMore
import Derived.Laws.CopyOwn
set_option linter.unusedVariables false
namespace Go.Proofs.Ytacjlaiddnfpdaa.H
open Go.RowKit Go.Proofs.YtacjlaiddnfpdaaW.PrintWords Go.Proofs.YtacjlaiddnfpdaaW.PrintMore
theorem R_unpack {k : IntKind} {E : Nat} {w : World} {base : Nat} {ok : Nat → Prop} {v : Value} {xs : List Int} (h : (Kd.int k).R E w base ok v xs) (hp : 0 < xs.length) :
    ∃ g cap, ∃ cur : List Value, v = .slice (some ⟨g, 0, none⟩) xs.length cap ∧ base ≤ g ∧ w.heap[g]? = some (.cells cur.toArray E (0, 0)) ∧ xs.length ≤ cap ∧ cap ≤ maxLen ∧ cur.length = cap ∧ cur.take xs.length = xs.map (Value.int k) := by
  obtain ⟨h1, h2⟩ := Kd.own_of_R h
  rcases h2 with ⟨_, h0⟩ | ⟨g, cap, cur, rfl, hb, hh, hnc, hcm, hsz, htk⟩
  · omega
  · refine ⟨g, cap, cur.toList, rfl, hb, by simpa using hh, hnc, hcm, by simpa using hsz, ?_⟩
    rw [Nat.mul_one] at htk
    exact htk
theorem R_pack {k : IntKind} {E : Nat} {w : World} {base g cap : Nat} {cur : List Value} {xs : List Int} (hb : base ≤ g) (hh : w.heap[g]? = some (.cells cur.toArray E (0, 0))) (hnc : xs.length ≤ cap) (hcm : cap ≤ maxLen) (hsz : cur.length = cap) (htk : cur.take xs.length = xs.map (Value.int k)) :
    (Kd.int k).R E w base (fun _ => True) (.slice (some ⟨g, 0, none⟩) xs.length cap) xs := by
  refine Kd.R_of_own (enc := Value.int k) (h1 := fun _ => rfl) ⟨by simp [encs], .inr ⟨g, cap, cur.toArray, rfl, hb, hh, hnc, hcm, by simpa using hsz, ?_⟩⟩ (fun _ _ => trivial)
  rw [Nat.mul_one]
  exact htk
theorem cell_list {w : World} {g : Nat} {t : TypeId} {cur : List Value} (h : w.heap[g]? = some (.cells cur.toArray t (0, 0))) (j : Nat) : w.cell? ⟨g, j, none⟩ = cur[j]? := by
  rw [blk_cell h j]; simp
/-- A row of which the first m cells are x. -/
structure repSt (k : IntKind) (E : Nat) (w0 w : World) (g cap m : Nat) (x : Int) : Prop where
  below : Below w0.heap.size w0 w
  far : w0.heap.size ≤ g
  max : cap ≤ maxLen
  row : ∃ cur : List Value, w.heap[g]? = some (.cells cur.toArray E (0, 0)) ∧ cur.length = cap ∧ cur.take m = List.replicate m (Value.int k x)
theorem repSt_drewN {k : IntKind} {E : Nat} {w0 w : World} {g cap m : Nat} {x : Int} (h : repSt k E w0 w g cap m x) (n : Nat) : repSt k E w0 (w.drewN n) g cap m x :=
  ⟨pw_below_drewN h.below n, h.far, h.max, h.row⟩
theorem rep_splice {k : IntKind} {x : Int} {cur : List Value} {m j N : Nat} (hm : m ≤ N) (hj : j ≤ m) (hN : m + j ≤ cur.length) (ht : cur.take m = List.replicate m (Value.int k x)) :
    (splice cur m (List.replicate j (Value.int k x))).length = cur.length ∧ (splice cur m (List.replicate j (Value.int k x))).take (m + j) = List.replicate (m + j) (Value.int k x) := by
  unfold splice
  constructor
  · simp; omega
  · rw [ht, ← List.append_assoc, List.replicate_append_replicate]
    rw [List.take_left' (by simp)]
end Go.Proofs.Ytacjlaiddnfpdaa.H
