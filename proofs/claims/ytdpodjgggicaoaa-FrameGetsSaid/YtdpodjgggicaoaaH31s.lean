/- Rows of bytes of which each is written in place, whichever rows they are: a byte stays a byte. -/
import Derived.Test.YtdpodjgggicaoaaH8s
set_option linter.unusedVariables false
set_option linter.unusedSimpArgs false
namespace Go.Proofs.Ytdpodjgggicaoaa.H
open Go.RowKit Go.Proofs.YtdpodjgggicaoaaW.PrintWords Go.Proofs.YtdpodjgggicaoaaW.PrintMore
def U8Keep (E : Nat) (a b : World) : Prop := ∀ k, k < a.heap.size → b.heap[k]? = a.heap[k]? ∨ ∃ cur cur' : Array Value, a.heap[k]? = some (.cells cur E (0, 0)) ∧ b.heap[k]? = some (.cells cur' E (0, 0)) ∧ ∀ (j : Nat) (x : Int), cur[j]? = some (Value.int .u8 x) → ∃ y : Int, cur'[j]? = some (Value.int .u8 y)
theorem u8keep_refl (E : Nat) (a : World) : U8Keep E a a := fun _ _ => .inl rfl
theorem u8keep_lt {E : Nat} {a b : World} (h : U8Keep E a b) {k : Nat} (hk : k < a.heap.size) : k < b.heap.size := by
  have he : ∃ o, b.heap[k]? = some o := by
    rcases h k hk with h | ⟨_, cur', _, h, _⟩
    · exact ⟨_, h.trans (Array.getElem?_eq_getElem hk)⟩
    · exact ⟨_, h⟩
  obtain ⟨o, ho⟩ := he
  exact (Array.getElem?_eq_some_iff.1 ho).1
theorem set_u8 {cur : Array Value} {j : Nat} {y : Int} (i : Nat) (x : Int) (h : cur[i]? = some (.int .u8 x)) : ∃ z, (cur.setIfInBounds j (.int .u8 y))[i]? = some (.int .u8 z) := by
  by_cases e : j = i
  · subst e
    have hl := (Array.getElem?_eq_some_iff.1 h).1
    exact ⟨y, by simp [hl]⟩
  · exact ⟨x, by rw [Array.getElem?_setIfInBounds, if_neg e]; exact h⟩
theorem u8keep_set {E : Nat} {a b : World} (h : U8Keep E a b) {g j : Nat} {y : Int} (hg : ∃ cur, b.heap[g]? = some (.cells cur E (0, 0))) : U8Keep E a (b.setCell ⟨g, j, none⟩ (.int .u8 y)) := by
  obtain ⟨cr, hcr⟩ := hg
  intro k hk
  by_cases e : k = g
  · subst e
    have hn : (b.setCell ⟨k, j, none⟩ (.int .u8 y)).heap[k]? = some (.cells (cr.setIfInBounds j (.int .u8 y)) E (0, 0)) := by
      simp only [World.setCell, Array.getElem?_modify, if_true, hcr]
      rfl
    rcases h k hk with h | ⟨cur, cur', h1, h2, h3⟩
    · exact .inr ⟨cr, _, h.symm.trans hcr, hn, fun i x hx => set_u8 i x hx⟩
    · rw [hcr] at h2
      injection h2 with h2
      injection h2 with h2
      subst h2
      refine .inr ⟨cur, _, h1, hn, fun i x hx => ?_⟩
      obtain ⟨z, hz⟩ := h3 i x hx
      exact set_u8 i z hz
  · have hn := Below.heap_setCell b ⟨g, j, none⟩ (.int .u8 y) k e
    rcases h k hk with h | ⟨cur, cur', h1, h2, h3⟩
    · exact .inl (hn.trans h)
    · exact .inr ⟨cur, cur', h1, hn.trans h2, h3⟩
theorem u8keep_other {E : Nat} {a b : World} (h : U8Keep E a b) {g t : Nat} {cells : Array Value} (hg : a.heap[g]? = some (.cells cells t (0, 0))) (ht : t ≠ E) : b.heap[g]? = a.heap[g]? := by
  have hl := (Array.getElem?_eq_some_iff.1 hg).1
  rcases h g hl with h | ⟨cur, cur', h1, _, _⟩
  · exact h
  · rw [hg] at h1
    injection h1 with h1
    injection h1 with _ h1
    exact absurd h1 ht
def U8Row (E : Nat) (w : World) (base : Nat) (v : Value) (n : Nat) : Prop := ∃ A c, v = .slice A n c ∧ n ≤ 140737488355328 ∧ (0 < n → ∃ g, A = some ⟨g, 0, none⟩ ∧ base ≤ g ∧ ∃ cur : Array Value, w.heap[g]? = some (.cells cur E (0, 0)) ∧ ∀ j, j < n → ∃ x : Int, cur[j]? = some (Value.int .u8 x))
theorem u8rows {E T : Nat} {w : World} {base : Nat} {ok : Nat → Prop} {v : Value} {xs : List (List Int)} (h : (Kd.slice E (Kd.int .u8)).R T w base ok v xs) (hm : ∀ x ∈ xs, x.length ≤ 140737488355328) : ∃ A c, v = .slice A xs.length c ∧ (0 < xs.length → ∃ g, A = some ⟨g, 0, none⟩ ∧ ∃ cells, w.heap[g]? = some (.cells cells T (0, 0)) ∧ ∀ i, (hi : i < xs.length) → ∃ u, cells[i]? = some u ∧ U8Row E w base u xs[i].length) := by
  obtain ⟨A, c, rfl⟩ := Kd.R_slice h
  refine ⟨A, c, rfl, fun hp => ?_⟩
  obtain ⟨g, cap, e, hb, hl, cells, hc⟩ := Kd.R_form h hp
  injection e with e1 e2 e3
  subst e1 e3
  refine ⟨g, rfl, cells, hc, fun i hi => ?_⟩
  obtain ⟨cs, hs, hM, hcell⟩ := Kd.R_getA h [] (i : Int) (by omega) (by omega)
  obtain ⟨u, rfl, hR⟩ := hM
  have hx : xs.getD (i : Int).toNat [] = xs[i] := by rw [Int.toNat_natCast, List.getD_eq_getElem?_getD, List.getElem?_eq_getElem hi]; rfl
  rw [hx] at hR
  have h0 := hcell 0 u rfl
  have h1 : w.cell? ⟨g, i, none⟩ = some u := by
    rw [← h0, show (Kd.slice E (Kd.int .u8)).sz = 1 from rfl, Nat.mul_one, Nat.add_zero, Int.toNat_natCast, add_at, Nat.zero_add]
  rw [blk_cell hc i] at h1
  refine ⟨u, h1, ?_⟩
  obtain ⟨A2, c2, rfl⟩ := Kd.R_slice hR
  refine ⟨A2, c2, rfl, hm _ (List.getElem_mem hi), fun hp2 => ?_⟩
  obtain ⟨g2, cap2, cur, e, hb2, hh, hnc, hcm, hsz, htk⟩ := R_unpack hR hp2
  injection e with e1 _ _
  refine ⟨g2, e1, hb2, cur.toArray, hh, fun j hj => ?_⟩
  have h2 := congrArg (fun l => l[j]?) htk
  simp only [List.getElem?_take, if_pos hj, List.getElem?_map, List.getElem?_eq_getElem hj] at h2
  exact ⟨_, by simpa using h2⟩
theorem u8row_cell {E : Nat} {a b : World} {base : Nat} {A : Option Addr} {n c : Nat} (hr : U8Row E a base (.slice A n c) n) (h : U8Keep E a b) (j : Nat) (hj : j < n) : ∃ g x, A = some ⟨g, 0, none⟩ ∧ base ≤ g ∧ (∃ cur, b.heap[g]? = some (.cells cur E (0, 0))) ∧ b.cell? ⟨g, j, none⟩ = some (.int .u8 x) ∧ b.frozen? ⟨g, j, none⟩ = false ∧ g < b.heap.size := by
  obtain ⟨A', c', e, _, hg⟩ := hr
  injection e with e1 _ _
  subst e1
  obtain ⟨g, rfl, hb, cur, hc, hu⟩ := hg (by omega)
  have hl := (Array.getElem?_eq_some_iff.1 hc).1
  obtain ⟨x, hx⟩ := hu j hj
  have hk : ∃ cr y, b.heap[g]? = some (.cells cr E (0, 0)) ∧ cr[j]? = some (.int .u8 y) := by
    rcases h g hl with h | ⟨cr, cr', h1, h2, h3⟩
    · exact ⟨cur, x, h.trans hc, hx⟩
    · rw [hc] at h1
      injection h1 with h1
      injection h1 with h1
      subst h1
      obtain ⟨y, hy⟩ := h3 j x hx
      exact ⟨cr', y, h2, hy⟩
  obtain ⟨cr, y, hcr, hy⟩ := hk
  refine ⟨g, y, rfl, hb, ⟨cr, hcr⟩, (blk_cell hcr j).trans hy, ?_, u8keep_lt h hl⟩
  simp [World.frozen?, hcr]
end Go.Proofs.Ytdpodjgggicaoaa.H
