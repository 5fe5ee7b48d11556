/- The plain mathematics of layers 15 to 17: edges between hosts, layer by layer. -/
import Derived.Test.YtacjlaiddnfpdaaH11
set_option linter.unusedVariables false
namespace Go.Proofs.Ytacjlaiddnfpdaa.H
structure Ed where
  f : Int
  t : Int
  w : Int
/-- May edges be, for so many hosts? -/
structure okE (n : Nat) (es : List Ed) : Prop where
  n32 : n ≤ 32
  ok : ∀ e ∈ es, 0 ≤ e.f ∧ e.f < (n : Int) ∧ 0 ≤ e.t ∧ e.t < (n : Int) ∧ -4503599627370496 ≤ e.w ∧ e.w ≤ 4503599627370496
/-- What a host has behind a layer, and by which edge: the least, by the first one. -/
def lst (had : Int → Int) (h : Int) : List Ed → Int → Int → Int → Int × Int
  | [], _, b, y => (b, y)
  | e :: r, i, b, y => if e.t = h ∧ had e.f + e.w < b then lst had h r (i + 1) (had e.f + e.w) i else lst had h r (i + 1) b y
def L (es : List Ed) : Nat → Int → Int
  | 0, _ => 0
  | k + 1, h => (lst (L es k) h es 0 (L es k h) (-1)).1
def B (es : List Ed) : Nat → Int → Int
  | 0, _ => -1
  | k + 1, h => (lst (L es k) h es 0 (L es k h) (-1)).2
theorem lst_le (had : Int → Int) (h : Int) : ∀ (es : List Ed) (i b y : Int), (lst had h es i b y).1 ≤ b ∧ ∀ e ∈ es, e.t = h → (lst had h es i b y).1 ≤ had e.f + e.w
  | [], _, b, y => ⟨Int.le_refl _, fun e he => by simp at he⟩
  | e :: r, i, b, y => by
    unfold lst
    by_cases c : e.t = h ∧ had e.f + e.w < b
    · rw [if_pos c]
      obtain ⟨h1, h2⟩ := lst_le had h r (i + 1) (had e.f + e.w) i
      refine ⟨by have := c.2; omega, fun e' he' ht => ?_⟩
      rcases List.mem_cons.1 he' with rfl | hm
      · exact h1
      · exact h2 e' hm ht
    · rw [if_neg c]
      obtain ⟨h1, h2⟩ := lst_le had h r (i + 1) b y
      refine ⟨h1, fun e' he' ht => ?_⟩
      rcases List.mem_cons.1 he' with rfl | hm
      · have : ¬ (had e'.f + e'.w < b) := fun hlt => c ⟨ht, hlt⟩
        omega
      · exact h2 e' hm ht
theorem lst_by (had : Int → Int) (h : Int) : ∀ (es : List Ed) (i b y : Int), ((lst had h es i b y).1 = b ∧ (lst had h es i b y).2 = y) ∨ ∃ (j : Nat) (hj : j < es.length), es[j].t = h ∧ (lst had h es i b y).1 = had es[j].f + es[j].w ∧ (lst had h es i b y).1 < b ∧ (lst had h es i b y).2 = i + (j : Int)
  | [], _, b, y => .inl ⟨rfl, rfl⟩
  | e :: r, i, b, y => by
    unfold lst
    by_cases c : e.t = h ∧ had e.f + e.w < b
    · rw [if_pos c]
      rcases lst_by had h r (i + 1) (had e.f + e.w) i with ⟨h1, h2⟩ | ⟨j, hj, h1, h2, h3, h4⟩
      · refine .inr ⟨0, by simp, c.1, h1, by rw [h1]; exact c.2, by rw [h2]; simp⟩
      · exact .inr ⟨j + 1, by simp; omega, h1, h2, by have := c.2; omega, by rw [h4]; push_cast; omega⟩
    · rw [if_neg c]
      rcases lst_by had h r (i + 1) b y with h1 | ⟨j, hj, h1, h2, h3, h4⟩
      · exact .inl h1
      · exact .inr ⟨j + 1, by simp; omega, h1, h2, h3, by rw [h4]; push_cast; omega⟩
theorem L_mono (es : List Ed) (k : Nat) (h : Int) : L es (k + 1) h ≤ L es k h := (lst_le _ _ es 0 _ _).1
theorem L_mono_le (es : List Ed) (h : Int) {i j : Nat} (hij : i ≤ j) : L es j h ≤ L es i h := by
  induction j with
  | zero =>
    obtain rfl : i = 0 := by omega
    exact Int.le_refl _
  | succ j ih =>
    rcases Nat.lt_or_ge i (j + 1) with hl | hl
    · exact Int.le_trans (L_mono es j h) (ih (by omega))
    · obtain rfl : i = j + 1 := by omega
      exact Int.le_refl _
theorem L_edge (es : List Ed) (k : Nat) {e : Ed} (he : e ∈ es) : L es (k + 1) e.t ≤ L es k e.f + e.w := (lst_le _ _ es 0 _ _).2 e he rfl
theorem L_nonpos (es : List Ed) (k : Nat) (h : Int) : L es k h ≤ 0 := L_mono_le es h (Nat.zero_le k)
/-- Where a host has got lower: the edge by which it has. -/
theorem L_by (es : List Ed) (k : Nat) (h : Int) (hlt : L es (k + 1) h < L es k h) : ∃ (j : Nat) (hj : j < es.length), B es (k + 1) h = (j : Int) ∧ es[j].t = h ∧ L es (k + 1) h = L es k es[j].f + es[j].w := by
  rcases lst_by (L es k) h es 0 (L es k h) (-1) with ⟨h1, h2⟩ | ⟨j, hj, h1, h2, h3, h4⟩
  · have : L es (k + 1) h = L es k h := h1
    omega
  · exact ⟨j, hj, by show (lst (L es k) h es 0 (L es k h) (-1)).2 = _; rw [h4]; omega, h1, h2⟩
theorem B_none (es : List Ed) (k : Nat) (h : Int) (he : L es (k + 1) h = L es k h) : B es (k + 1) h = -1 := by
  rcases lst_by (L es k) h es 0 (L es k h) (-1) with ⟨h1, h2⟩ | ⟨j, hj, h1, h2, h3, h4⟩
  · exact h2
  · have : L es (k + 1) h < L es k h := h3
    omega
theorem L_low {n : Nat} {es : List Ed} (ok : okE n es) : ∀ (k : Nat) (h : Int), -(4503599627370496 * (k : Int)) ≤ L es k h
  | 0, h => by simp [L]
  | k + 1, h => by
    have ih := L_low ok k h
    rcases Int.lt_or_le (L es (k + 1) h) (L es k h) with hlt | hge
    · obtain ⟨j, hj, _, _, h2⟩ := L_by es k h hlt
      have h3 := L_low ok k es[j].f
      have h4 := (ok.ok _ (List.getElem_mem hj)).2.2.2.2.1
      push_cast
      omega
    · push_cast
      omega
/-- Numbers for which all edges hold, none above 0, are nowhere above any layer. -/
theorem L_greatest {n : Nat} {es : List Ed} (ok : okE n es) {x : Int → Int} (hx : ∀ e ∈ es, x e.t ≤ x e.f + e.w) (h0 : ∀ h, 0 ≤ h → h < (n : Int) → x h ≤ 0) : ∀ (k : Nat) (h : Int), 0 ≤ h → h < (n : Int) → x h ≤ L es k h
  | 0, h, a, b => h0 h a b
  | k + 1, h, a, b => by
    rcases Int.lt_or_le (L es (k + 1) h) (L es k h) with hlt | hge
    · obtain ⟨j, hj, _, h1, h2⟩ := L_by es k h hlt
      have ho := ok.ok _ (List.getElem_mem hj)
      have h3 := L_greatest ok hx h0 k es[j].f ho.1 ho.2.1
      have h4 := hx _ (List.getElem_mem hj)
      rw [h1] at h4
      omega
    · exact Int.le_trans (L_greatest ok hx h0 k h a b) hge
/-- Going back from a host in the last layer: where one is behind j steps. -/
def bk (es : List Ed) (n : Nat) (v : Int) : Nat → Int
  | 0 => v
  | j + 1 => (es.getD (B es (n - j) (bk es n v j)).toNat ⟨0, 0, 0⟩).f
theorem bk_step {n : Nat} {es : List Ed} (ok : okE n es) {v : Int} {j : Nat} (hj : j < n) (hlt : L es (n - j) (bk es n v j) < L es (n - j - 1) (bk es n v j)) :
    ∃ (i : Nat) (hi : i < es.length), B es (n - j) (bk es n v j) = (i : Int) ∧ es[i].t = bk es n v j ∧ es[i].f = bk es n v (j + 1) ∧ L es (n - j) (bk es n v j) = L es (n - (j + 1)) (bk es n v (j + 1)) + es[i].w := by
  obtain ⟨k, hk⟩ : ∃ k, n - j = k + 1 := ⟨n - j - 1, by omega⟩
  rw [hk] at hlt ⊢
  obtain ⟨i, hi, h1, h2, h3⟩ := L_by es k _ (by simpa using hlt)
  have hf : bk es n v (j + 1) = es[i].f := by
    show (es.getD (B es (n - j) (bk es n v j)).toNat ⟨0, 0, 0⟩).f = _
    rw [hk, h1, Int.toNat_natCast, List.getD_eq_getElem?_getD, List.getElem?_eq_getElem hi]
    rfl
  exact ⟨i, hi, h1, h2, hf.symm, by rw [h3, hf, show n - (j + 1) = k by omega]⟩
/-- Each of these hosts has got lower in its layer. -/
theorem bk_low {n : Nat} {es : List Ed} (ok : okE n es) {v : Int} (hv0 : 0 ≤ v) (hvn : v < (n : Int)) (hlt : L es n v < L es (n - 1) v) : ∀ j, j < n → (0 ≤ bk es n v j ∧ bk es n v j < (n : Int)) ∧ L es (n - j) (bk es n v j) < L es (n - j - 1) (bk es n v j)
  | 0, hj => ⟨⟨hv0, hvn⟩, hlt⟩
  | j + 1, hj => by
    obtain ⟨hr, hl⟩ := bk_low ok hv0 hvn hlt j (by omega)
    obtain ⟨i, hi, h1, h2, h3, h4⟩ := bk_step ok (by omega) hl
    have ho := ok.ok _ (List.getElem_mem hi)
    rw [h3] at ho
    refine ⟨⟨ho.1, ho.2.1⟩, ?_⟩
    rcases Int.lt_or_le (L es (n - (j + 1)) (bk es n v (j + 1))) (L es (n - (j + 1) - 1) (bk es n v (j + 1))) with h | h
    · exact h
    · exfalso
      have he := L_edge es (n - (j + 1) - 1) (List.getElem_mem hi)
      rw [h2, h3, show n - (j + 1) - 1 + 1 = n - j - 1 by omega] at he
      omega
theorem bk_range {n : Nat} {es : List Ed} (ok : okE n es) {v : Int} (hv0 : 0 ≤ v) (hvn : v < (n : Int)) (hlt : L es n v < L es (n - 1) v) (j : Nat) (hj : j ≤ n) : 0 ≤ bk es n v j ∧ bk es n v j < (n : Int) := by
  rcases Nat.lt_or_ge j n with h | h
  · exact (bk_low ok hv0 hvn hlt j h).1
  · obtain rfl : j = n := by omega
    cases j with
    | zero => exact ⟨hv0, hvn⟩
    | succ j =>
      obtain ⟨hr, hl⟩ := bk_low ok hv0 hvn hlt j (by omega)
      obtain ⟨i, hi, h1, h2, h3, h4⟩ := bk_step ok (by omega) hl
      have ho := ok.ok _ (List.getElem_mem hi)
      rw [h3] at ho
      exact ⟨ho.1, ho.2.1⟩
/-- .. and between two that are one host the layer's number has got lower. -/
theorem bk_below {n : Nat} {es : List Ed} (ok : okE n es) {v : Int} (hv0 : 0 ≤ v) (hvn : v < (n : Int)) (hlt : L es n v < L es (n - 1) v) {i j : Nat} (hij : i < j) (hj : j ≤ n) (he : bk es n v i = bk es n v j) : L es (n - i) (bk es n v i) < L es (n - j) (bk es n v j) := by
  obtain ⟨_, hl⟩ := bk_low ok hv0 hvn hlt i (by omega)
  have := L_mono_le es (bk es n v i) (show n - j ≤ n - i - 1 by omega)
  rw [← he]
  omega
theorem bk_twice {n : Nat} {es : List Ed} (ok : okE n es) {v : Int} (hv0 : 0 ≤ v) (hvn : v < (n : Int)) (hlt : L es n v < L es (n - 1) v) : ∃ i j, i < j ∧ j ≤ n ∧ bk es n v i = bk es n v j := by
  obtain ⟨i, j, hij, hj, he⟩ := pigeon n (fun i => (bk es n v i).toNat) (fun i hi => by
    have := bk_range ok hv0 hvn hlt i hi
    show (bk es n v i).toNat < n
    omega)
  have h1 := bk_range ok hv0 hvn hlt i (by omega)
  have h2 := bk_range ok hv0 hvn hlt j hj
  have he' : (bk es n v i).toNat = (bk es n v j).toNat := he
  exact ⟨i, j, hij, hj, by omega⟩
/-- Where there are numbers for which all edges hold, the last two layers are one. -/
theorem L_conv {n : Nat} {es : List Ed} (ok : okE n es) {x : Int → Int} (hx : ∀ e ∈ es, x e.t ≤ x e.f + e.w) {v : Int} (hv0 : 0 ≤ v) (hvn : v < (n : Int)) : L es n v = L es (n - 1) v := by
  have hle := L_mono_le es v (show n - 1 ≤ n by omega)
  rcases Int.lt_or_le (L es n v) (L es (n - 1) v) with hlt | hge
  · exfalso
    obtain ⟨i, j, hij, hj, he⟩ := bk_twice ok hv0 hvn hlt
    have hb := bk_below ok hv0 hvn hlt hij hj he
    have key : ∀ d, i + d ≤ n → L es (n - (i + d)) (bk es n v (i + d)) - x (bk es n v (i + d)) ≤ L es (n - i) (bk es n v i) - x (bk es n v i) := by
      intro d
      induction d with
      | zero => intro _; exact Int.le_refl _
      | succ d ih =>
        intro hd
        have h1 := ih (by omega)
        obtain ⟨hr, hl⟩ := bk_low ok hv0 hvn hlt (i + d) (by omega)
        obtain ⟨q, hq, g1, g2, g3, g4⟩ := bk_step ok (by omega) hl
        have g5 := hx _ (List.getElem_mem hq)
        rw [g2, g3] at g5
        rw [show i + (d + 1) = i + d + 1 by omega]
        omega
    have := key (j - i) (by omega)
    rw [show i + (j - i) = j by omega, ← he] at this
    rw [← he] at hb
    omega
  · omega
/-- Where the last two layers are one, the last one meets all edges. -/
theorem L_meets {n : Nat} {es : List Ed} (ok : okE n es) (hc : ∀ h, 0 ≤ h → h < (n : Int) → L es n h = L es (n - 1) h) : ∀ e ∈ es, L es n e.t ≤ L es n e.f + e.w := by
  intro e he
  have ho := ok.ok e he
  have h1 := L_edge es (n - 1) he
  rw [show n - 1 + 1 = n by omega] at h1
  rw [hc e.f ho.1 ho.2.1]
  exact h1
/-- .. and whatever is below 0 in it is so by an edge from elsewhere that just holds, and whose begin has been so for longer. -/
theorem L_tight {n : Nat} {es : List Ed} (ok : okE n es) (hc : ∀ h, 0 ≤ h → h < (n : Int) → L es n h = L es (n - 1) h) : ∀ (k : Nat), k ≤ n → ∀ h, 0 ≤ h → h < (n : Int) → L es k h = L es n h → L es n h = 0 ∨ ∃ e ∈ es, ∃ k', k' < k ∧ e.t = h ∧ e.f ≠ h ∧ L es n e.f + e.w = L es n h ∧ L es k' e.f = L es n e.f
  | 0, _, h, _, _, he => .inl (by rw [← he]; rfl)
  | k + 1, hk, h, a, b, he => by
    rcases Int.lt_or_le (L es (k + 1) h) (L es k h) with hlt | hge
    · obtain ⟨j, hj, _, h1, h2⟩ := L_by es k h hlt
      have ho := ok.ok _ (List.getElem_mem hj)
      have h3 := L_meets ok hc _ (List.getElem_mem hj)
      have h4 := L_mono_le es es[j].f (show k ≤ n by omega)
      rw [h1] at h3
      refine .inr ⟨es[j], List.getElem_mem hj, k, by omega, h1, fun hf => ?_, by omega, by omega⟩
      rw [hf] at h2 h3 h4
      have h5 := L_mono_le es h (show k ≤ n by omega)
      omega
    · have hle := L_mono es k h
      rcases L_tight ok hc k (by omega) h a b (by omega) with h0 | ⟨e, he, k', hk', hr⟩
      · exact .inl h0
      · exact .inr ⟨e, he, k', by omega, hr⟩
end Go.Proofs.Ytacjlaiddnfpdaa.H
