/- Elements of rows of rows: read, and of the call's own. -/
import Derived.Test.YtdpodjgggicaoaaH8r
set_option linter.unusedVariables false
set_option linter.unusedSimpArgs false
namespace Go.Proofs.Ytdpodjgggicaoaa.H
open Go.RowKit Go.Proofs.YtdpodjgggicaoaaW.PrintWords Go.Proofs.YtdpodjgggicaoaaW.PrintMore
theorem C_elem {α : Type} {d : Kd α} {E : Nat} {w : World} {A : Option Addr} {n : Nat} {xs : List (List α)} (h : (Kd.slice E d).C w A n xs) (i : Nat) (hi : i < xs.length) : ∃ ad A' c', A = some ad ∧ w.cell? (ad.add i) = some (.slice A' xs[i].length c') ∧ xs[i].length ≤ c' ∧ d.C w A' xs[i].length xs[i] := by
  obtain ⟨ad, c, rfl, hs, hK, hc⟩ := Kd.C_get h [] (i : Int) (by omega) (by have := h.1; omega)
  have hx : xs.getD (i : Int).toNat [] = xs[i] := by rw [Int.toNat_natCast, List.getD_eq_getElem?_getD, List.getElem?_eq_getElem hi]; rfl
  rw [hx] at hK
  obtain ⟨A', c', rfl, hl, hC⟩ := hK
  have h0 := hc 0 _ rfl
  rw [show (Kd.slice E d).sz = 1 from rfl, Nat.mul_one, Nat.add_zero, Int.toNat_natCast] at h0
  exact ⟨ad, A', c', rfl, h0, hl, hC⟩
theorem R_rows {α : Type} {d : Kd α} {E T : Nat} {w : World} {base : Nat} {ok : Nat → Prop} {v : Value} {xs : List (List α)} (h : (Kd.slice E d).R T w base ok v xs) : ∃ A c, v = .slice A xs.length c ∧ (0 < xs.length → ∃ g, A = some ⟨g, 0, none⟩ ∧ g < w.heap.size ∧ ∃ cells, w.heap[g]? = some (.cells cells T (0, 0)) ∧ ∀ i, (hi : i < xs.length) → ∃ u, cells[i]? = some u ∧ d.R E w base (fun _ => True) u xs[i]) := by
  obtain ⟨A, c, rfl⟩ := Kd.R_slice h
  refine ⟨A, c, rfl, fun hp => ?_⟩
  obtain ⟨g, cap, e, hb, hl, cells, hc⟩ := Kd.R_form h hp
  injection e with e1 e2 e3
  subst e1 e3
  refine ⟨g, rfl, hl, cells, hc, fun i hi => ?_⟩
  obtain ⟨cs, hs, hM, hcell⟩ := Kd.R_getA h [] (i : Int) (by omega) (by omega)
  obtain ⟨u, rfl, hR⟩ := hM
  have hx : xs.getD (i : Int).toNat [] = xs[i] := by rw [Int.toNat_natCast, List.getD_eq_getElem?_getD, List.getElem?_eq_getElem hi]; rfl
  rw [hx] at hR
  have h0 := hcell 0 u rfl
  rw [show (Kd.slice E d).sz = 1 from rfl, Nat.mul_one, Nat.add_zero, Int.toNat_natCast, add_at, Nat.zero_add, blk_cell hc i] at h0
  exact ⟨u, h0, Kd.R_mono hR (fun _ _ => trivial)⟩
end Go.Proofs.Ytdpodjgggicaoaa.H
