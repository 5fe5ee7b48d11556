/- A scope in which the run jumps back to one label, with a ghost count; a row of truth values in a block of the call's own. -/
import Derived.Test.YtacjlaiddnfpdaaH13
import Derived.ScopeJumps
import Derived.Tactics
set_option linter.unusedVariables false
namespace Go.Proofs.Ytacjlaiddnfpdaa.H
open Go.RowKit Go.Proofs.YtacjlaiddnfpdaaW.PrintWords Go.Proofs.YtacjlaiddnfpdaaW.PrintMore
open Classical in
theorem wp_scope_count {P : Program} {a : Act} {w : World} {Q : Exit → Act → World → Prop} {c rest : Code} (l : Nat) (J : Nat → Act → World → Prop) (hf : findLabel c l = some (.seq .skip rest))
    (pass : ∀ n a w, J n a w → rest.wp P (Exit.jump l (fun a' w' => ∃ m, m < n ∧ J m a' w') Q) a w)
    (first : Aside0 (∀ n a w, J n a w → rest.wp P (Exit.jump l (fun a' w' => ∃ m, J m a' w') Q) a w) → c.wp P (Exit.jump l (fun a' w' => ∃ m, J m a' w') Q) a w) : (Code.scope c).wp P Q a w := by
  have least : ∀ {p : Nat → Prop}, (∃ n, p n) → ∃ n, p n ∧ ∀ m, p m → n ≤ m := by
    intro p ⟨n, hn⟩
    induction n using Nat.strongRecOn with
    | _ n ih =>
      by_cases h : ∃ m, m < n ∧ p m
      · obtain ⟨m, hm, hp⟩ := h; exact ih m hm hp
      · exact ⟨n, hn, fun m hp => Nat.le_of_not_lt (fun hlt => h ⟨m, hlt, hp⟩)⟩
  have mono : ∀ {c : Code} {J J' : Act → World → Prop} {a : Act} {w : World}, (∀ a w, J a w → J' a w) → c.wp P (Exit.jump l J Q) a w → c.wp P (Exit.jump l J' Q) a w := by
    intro c J J' a w hj h
    refine wp_mono h ?_
    intro e a w he
    cases e with
    | goto l' => exact ⟨he.1, hj _ _ he.2⟩
    | normal => exact he
    | exit id => exact he
    | ret => exact he
    | panic ch => exact he
    | outgrown => exact he
  refine wp_scope_jumps l (fun a w => ∃ n, J n a w) (fun a w => if h : ∃ n, J n a w then (least h).choose else 0) hf (first ⟨fun n a w hJ => mono (fun a w h => ⟨h.choose, h.choose_spec.2⟩) (pass n a w hJ)⟩) ?_
  intro a w hJ
  refine wp_seq (wp_skip ?_)
  show rest.wp P _ a w
  refine mono ?_ (pass _ a w (least hJ).choose_spec.1)
  rintro a' w' ⟨m, hm, hJ'⟩
  refine ⟨⟨m, hJ'⟩, ?_⟩
  rw [dif_pos ⟨m, hJ'⟩, dif_pos hJ]
  exact Nat.lt_of_le_of_lt ((least ⟨m, hJ'⟩).choose_spec.2 m hJ') hm
structure rowB (w : World) (g E : Nat) (st : List Bool) : Prop where
  blk : w.heap[g]? = some (.cells (st.map Value.bool).toArray E (0, 0))
theorem rowB_made (W : World) (E m : Nat) : rowB (W.alloc (.cells (madeCells #[.bool false] m) E)) W.heap.size E (List.replicate m false) := by
  refine ⟨(heap_alloc_new _ _).trans ?_⟩
  have hl : madeCells #[Value.bool false] m = ((List.replicate m false).map Value.bool).toArray := by
    apply Array.ext
    · simp [madeCells]
    · intro i h1 h2
      simp [madeCells, Nat.mod_one]
  rw [hl]
theorem rowB_lt {w : World} {g E : Nat} {st : List Bool} (h : rowB w g E st) : g < w.heap.size := blk_lt h.blk
theorem rowB_cell {w : World} {g E : Nat} {st : List Bool} (h : rowB w g E st) (a : Int) (h0 : 0 ≤ a) (h1 : a < (st.length : Int)) : w.cell? ⟨g, a.toNat, none⟩ = some (.bool (st.getD a.toNat false)) := by
  rw [blk_cell h.blk a.toNat]
  simp [List.getD_eq_getElem?_getD, List.getElem?_eq_getElem (show a.toNat < st.length by omega)]
theorem rowB_frozen {w : World} {g E : Nat} {st : List Bool} (h : rowB w g E st) (i : Nat) : w.frozen? ⟨g, i, none⟩ = false := blk_frozen h.blk i
theorem rowB_set {w : World} {g E : Nat} {st : List Bool} (h : rowB w g E st) (i : Nat) (v : Bool) : rowB (w.setCell ⟨g, i, none⟩ (.bool v)) g E (st.set i v) := by
  refine ⟨(blk_set h.blk i (.bool v)).trans ?_⟩
  rw [List.map_set]
  simp
theorem rowB_C {w : World} {g E : Nat} {st : List Bool} (h : rowB w g E st) (hl : st.length ≤ 9223372036854775807) : Kd.C Kd.bool w (some ⟨g, 0, none⟩) st.length st := by
  refine Kd.C_of_reads (d := false) (h1 := fun _ => rfl) ⟨rfl, hl, fun _ => ⟨_, rfl, fun j hj => ?_⟩⟩
  rw [add_plain, blk_cell h.blk j]
  simp [List.getElem?_eq_getElem hj, List.getD_eq_getElem?_getD]
theorem rowB_below {w w1 : World} {g E : Nat} {st : List Bool} (h : rowB w g E st) (hb : Below w.heap.size w w1) : rowB w1 g E st := ⟨blk_below h.blk hb⟩
theorem rowB_alloc {w : World} {g E : Nat} {st : List Bool} (h : rowB w g E st) (o : Obj) : rowB (w.alloc o) g E st := ⟨blk_alloc h.blk o⟩
theorem rowB_drewN {w : World} {g E : Nat} {st : List Bool} (h : rowB w g E st) (m : Nat) : rowB (w.drewN m) g E st := ⟨h.blk⟩
end Go.Proofs.Ytacjlaiddnfpdaa.H
