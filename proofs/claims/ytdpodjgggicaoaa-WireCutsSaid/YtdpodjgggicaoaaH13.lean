/- A row of numbers in a block of the call's own, known whole. -/
import Derived.Test.YtdpodjgggicaoaaWWords
import Derived.Test.YtdpodjgggicaoaaWMore
import Derived.Laws.CopyOwn
set_option linter.unusedVariables false
namespace Go.Proofs.Ytdpodjgggicaoaa.H
open Go.RowKit Go.Proofs.YtdpodjgggicaoaaW.PrintWords Go.Proofs.YtdpodjgggicaoaaW.PrintMore
structure rowI (w : World) (g E : Nat) (st : List Int) : Prop where
  blk : w.heap[g]? = some (.cells (st.map (Value.int .i64)).toArray E (0, 0))
theorem rowI_made (W : World) (E m : Nat) : rowI (W.alloc (.cells (madeCells #[.int .i64 0] m) E)) W.heap.size E (List.replicate m 0) := by
  refine ⟨(heap_alloc_new _ _).trans ?_⟩
  have hl : madeCells #[Value.int .i64 0] m = ((List.replicate m (0 : Int)).map (Value.int .i64)).toArray := by
    apply Array.ext
    · simp [madeCells]
    · intro i h1 h2
      simp [madeCells, Nat.mod_one]
  rw [hl]
theorem rowI_lt {w : World} {g E : Nat} {st : List Int} (h : rowI w g E st) : g < w.heap.size := blk_lt h.blk
theorem rowI_cell {w : World} {g E : Nat} {st : List Int} (h : rowI w g E st) (a : Int) (h0 : 0 ≤ a) (h1 : a < (st.length : Int)) : w.cell? ⟨g, a.toNat, none⟩ = some (.int .i64 (st.getD a.toNat 0)) := by
  rw [blk_cell h.blk a.toNat]
  simp [List.getD_eq_getElem?_getD, List.getElem?_eq_getElem (show a.toNat < st.length by omega)]
theorem rowI_rd {w : World} {g E : Nat} {st : List Int} (h : rowI w g E st) (a : Int) (h0 : 0 ≤ a) (h1 : a < (st.length : Int)) : w.cell? ⟨g, a.toNat, none⟩ = some (.int .i64 (rd st a)) := rowI_cell h a h0 h1
theorem rowI_frozen {w : World} {g E : Nat} {st : List Int} (h : rowI w g E st) (i : Nat) : w.frozen? ⟨g, i, none⟩ = false := blk_frozen h.blk i
theorem rowI_set {w : World} {g E : Nat} {st : List Int} (h : rowI w g E st) (i : Nat) (v : Int) : rowI (w.setCell ⟨g, i, none⟩ (.int .i64 v)) g E (st.set i v) := by
  refine ⟨(blk_set h.blk i (.int .i64 v)).trans ?_⟩
  rw [List.map_set]
  simp
theorem rowI_C {w : World} {g E : Nat} {st : List Int} (h : rowI w g E st) (hl : st.length ≤ 9223372036854775807) : Kd.C (Kd.int .i64) w (some ⟨g, 0, none⟩) st.length st := by
  refine Kd.C_of_reads (d := (0 : Int)) (h1 := fun _ => rfl) ⟨rfl, hl, fun _ => ⟨_, rfl, fun j hj => ?_⟩⟩
  rw [add_plain, blk_cell h.blk j]
  simp [List.getElem?_eq_getElem hj, List.getD_eq_getElem?_getD]
theorem rowI_R {w : World} {g E base : Nat} {st : List Int} (h : rowI w g E st) (hb : base ≤ g) (hl : st.length ≤ 9223372036854775807) : Kd.R (Kd.int .i64) E w base (fun _ => True) (.slice (some ⟨g, 0, none⟩) st.length st.length) st :=
  Kd.R_of_own (enc := Value.int .i64) (h1 := fun _ => rfl) ⟨by simp [encs], .inr ⟨g, st.length, (st.map (Value.int .i64)).toArray, rfl, hb, h.blk, Nat.le_refl _, by unfold maxLen; omega, by simp, by rw [Nat.mul_one, List.take_of_length_le (by simp)]; rfl⟩⟩ (fun _ _ => trivial)
theorem grown_set (W : World) (g i : Nat) (u : Value) : W.grownBy (W.setCell ⟨g, i, none⟩ u) (some g) := by
  have h := (Below.refl 0 W).setCell (p := ⟨g, i, none⟩) (Nat.zero_le _) u
  exact ⟨h.os, h.tape, h.output, h.size, fun k _ hne => Below.heap_setCell W _ u k (fun e => hne (by rw [e]))⟩
theorem rowI_grown {w w1 : World} {g E : Nat} {st : List Int} (h : rowI w g E st) {row : Option Nat} (hg : w.grownBy w1 row) (hne : some g ≠ row) : rowI w1 g E st := ⟨blk_grown h.blk hg hne⟩
theorem rowI_same {w w1 : World} {g E : Nat} {st : List Int} (h : rowI w g E st) (hs : w1.heap[g]? = w.heap[g]?) : rowI w1 g E st := ⟨hs.trans h.blk⟩
theorem rowI_drewN {w : World} {g E : Nat} {st : List Int} (h : rowI w g E st) (m : Nat) : rowI (w.drewN m) g E st := ⟨h.blk⟩
end Go.Proofs.Ytdpodjgggicaoaa.H
