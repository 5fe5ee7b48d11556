/- A forest's row in plain Lean: each place ahead of those below it. No conditions. -/
import Derived.Test.YtacjlaiddnfpdaaH11
import Derived.Test.YtacjlaiddnfpdaaWMore
import Derived.Test.YtacjlaiddnfpdaaWLast
set_option linter.unusedVariables false
namespace Go.Proofs.Ytacjlaiddnfpdaa.H
open Go.RowKit Go.Proofs.YtacjlaiddnfpdaaW.PrintWords Go.Proofs.YtacjlaiddnfpdaaW.PrintLast Go.Proofs.YtacjlaiddnfpdaaW.PrintMore
/-- The places whose parent it is. -/
def kidsN (p : List Int) (a : Int) : List Nat := (List.range p.length).filter fun i => decide (p.getD i 0 = a)
/-- A row's place: place, depth, parent. -/
abbrev It3 := Int × Int × Int
def rowsK (f : Int → Nat → Option (List It3)) (a : Int) (d : Nat) : List Nat → Option (List It3)
  | [] => some []
  | i :: r => (f (i : Int) (d + 1)).bind fun x => (rowsK f a d r).bind fun y => some (((i : Int), (d : Int), a) :: (x ++ y))
def rowK (p : List Int) : Nat → Int → Nat → Option (List It3)
  | 0, _, _ => none
  | k + 1, a, d => if d ≤ 1000000 then rowsK (rowK p k) a d (kidsN p a) else none
theorem rowsK_mono {f g : Int → Nat → Option (List It3)} (h : ∀ a d, LeO (f a d) (g a d)) (a : Int) (d : Nat) : ∀ l, LeO (rowsK f a d l) (rowsK g a d l)
  | [] => LeO.refl _
  | i :: r => LeO.bind (h _ _) (fun _ => LeO.bind (rowsK_mono h a d r) (fun _ => LeO.refl _))
theorem rowK_mono (p : List Int) : ∀ (k : Nat) (a : Int) (d : Nat), LeO (rowK p k a d) (rowK p (k + 1) a d)
  | 0, _, _ => fun r h => by simp [rowK] at h
  | k + 1, a, d => LeO.ite (rowsK_mono (rowK_mono p k) a d _) (LeO.refl _)
theorem kidsN_mem {p : List Int} {a : Int} {i : Nat} : i ∈ kidsN p a ↔ i < p.length ∧ p.getD i 0 = a := by simp [kidsN]
theorem kidsN_nx {p : List Int} {a : Int} {i : Nat} (h : i ∈ kidsN p a) : nx p (i : Int) = a := by
  unfold nx
  rw [if_pos (by omega), Int.toNat_natCast]
  exact (kidsN_mem.1 h).2
theorem kidsN_sorted (p : List Int) (a : Int) : (kidsN p a).Pairwise (· < ·) := List.Pairwise.filter _ List.pairwise_lt_range
theorem rowsK_some {f : Int → Nat → Option (List It3)} {a : Int} {d : Nat} : ∀ {l : List Nat}, (∀ i ∈ l, ∃ r, f (i : Int) (d + 1) = some r) → ∃ r, rowsK f a d l = some r
  | [], _ => ⟨[], rfl⟩
  | i :: r, h => by
    obtain ⟨x, hx⟩ := h i List.mem_cons_self
    obtain ⟨y, hy⟩ := rowsK_some (f := f) (a := a) (d := d) (l := r) (fun j hj => h j (List.mem_cons_of_mem _ hj))
    exact ⟨_, by rw [rowsK, hx, Option.bind_some, hy, Option.bind_some]⟩
theorem rowK_some {p : List Int} : ∀ (j : Nat) (a : Int) (d : Nat), (∀ b, 0 ≤ b → b < (p.length : Int) → 0 ≤ up p j b → up p (j + 1) b ≠ a) → d + j ≤ 1000000 → ∃ r, rowK p (j + 1) a d = some r
  | 0, a, d, h, hd => by
    have hk : kidsN p a = [] := List.eq_nil_iff_forall_not_mem.2 fun i hi => by
      have h1 := (kidsN_mem.1 hi).1
      exact h (i : Int) (by omega) (by omega) (by show (0 : Int) ≤ (i : Int); omega) (kidsN_nx hi)
    exact ⟨[], by rw [rowK, if_pos (by omega), hk, rowsK]⟩
  | j + 1, a, d, h, hd => by
    obtain ⟨r, hr⟩ := rowsK_some (f := rowK p (j + 1)) (a := a) (d := d) (l := kidsN p a) (fun i hi => rowK_some j (i : Int) (d + 1) (fun b b0 b1 hu he => h b b0 b1 (by rw [he]; omega) (by rw [up_succ, he]; exact kidsN_nx hi)) (by omega))
    exact ⟨r, by rw [rowK, if_pos (by omega)]; exact hr⟩
theorem row_some {p : List Int} (hp : okP p) (hn : ∀ a, a < (p.length : Int) → ¬ cyc p a) (hl : p.length ≤ 1000000) : ∃ r, rowK p (p.length + 1) (-1) 0 = some r :=
  rowK_some p.length (-1) 0 (fun b b0 b1 hu _ => by have := up_ends_lt hp hn b1; omega) (by omega)
/-- Is it at this place, or below it? -/
def desc (p : List Int) (a q : Int) : Prop := ∃ t, up p t q = a
theorem desc_self (p : List Int) (a : Int) : desc p a a := ⟨0, rfl⟩
theorem desc_nx {p : List Int} {a q : Int} (h : desc p a (nx p q)) : desc p a q := by
  obtain ⟨t, ht⟩ := h
  exact ⟨t + 1, ht⟩
theorem desc_up {p : List Int} {a i q : Int} (hi : nx p i = a) (h : desc p i q) : desc p a q := by
  obtain ⟨t, ht⟩ := h
  exact ⟨t + 1, by rw [up_succ, ht, hi]⟩
theorem no_par {p : List Int} (hn : ∀ a, a < (p.length : Int) → ¬ cyc p a) {i a : Int} (h0 : 0 ≤ i) (h1 : i < (p.length : Int)) (hi : nx p i = a) : ¬ desc p i a := by
  rintro ⟨t, ht⟩
  refine hn i h1 ⟨h0, t + 1, by omega, ?_⟩
  show up p t (nx p i) = i
  rw [hi, ht]
theorem no_sib {p : List Int} (hn : ∀ a, a < (p.length : Int) → ¬ cyc p a) {i j a q : Int} (i0 : 0 ≤ i) (i1 : i < (p.length : Int)) (j0 : 0 ≤ j) (j1 : j < (p.length : Int)) (hi : nx p i = a) (hj : nx p j = a) (hne : i ≠ j) (di : desc p i q) (dj : desc p j q) : False := by
  have key : ∀ {i j : Int}, i < (p.length : Int) → 0 ≤ j → j < (p.length : Int) → nx p i = a → nx p j = a → i ≠ j → ∀ {s t : Nat}, s ≤ t → up p s q = i → up p t q = j → False := by
    intro i j i1 j0 j1 hi hj hne s t hst hs ht
    obtain ⟨m, rfl⟩ : ∃ m, t = s + m := ⟨t - s, by omega⟩
    rw [up_add, hs] at ht
    cases m with
    | zero => exact hne ht
    | succ m =>
      refine hn j j1 ⟨j0, m + 1, by omega, ?_⟩
      show up p m (nx p j) = j
      rw [hj, ← hi]
      exact ht
  obtain ⟨s, hs⟩ := di
  obtain ⟨t, ht⟩ := dj
  rcases Nat.le_total s t with h | h
  · exact key i1 j0 j1 hi hj hne h hs ht
  · exact key j1 i0 i1 hj hi (Ne.symm hne) h ht hs
/-- What stands in the row of places below a. -/
theorem rowsK_mem {f : Int → Nat → Option (List It3)} {a : Int} {d : Nat} : ∀ {l : List Nat} {row : List It3}, rowsK f a d l = some row → ∀ x ∈ row, ∃ i ∈ l, x = ((i : Int), (d : Int), a) ∨ ∃ r, f (i : Int) (d + 1) = some r ∧ x ∈ r
  | [], row, h, x, hx => by rw [rowsK] at h; cases h; cases hx
  | i :: l, row, h, x, hx => by
    rw [rowsK] at h
    obtain ⟨X, hX, h⟩ := Option.bind_eq_some_iff.1 h
    obtain ⟨Y, hY, h⟩ := Option.bind_eq_some_iff.1 h
    obtain rfl := Option.some.inj h
    rcases List.mem_cons.1 hx with rfl | hx
    · exact ⟨i, List.mem_cons_self, .inl rfl⟩
    · rcases List.mem_append.1 hx with hx | hx
      · exact ⟨i, List.mem_cons_self, .inr ⟨X, hX, hx⟩⟩
      · obtain ⟨j, hj, hr⟩ := rowsK_mem hY x hx
        exact ⟨j, List.mem_cons_of_mem _ hj, hr⟩
theorem rowK_el {p : List Int} : ∀ (k : Nat) (a : Int) (d : Nat) (row : List It3), rowK p k a d = some row → ∀ x ∈ row, (∃ i : Nat, x.1 = (i : Int) ∧ i < p.length) ∧ nx p x.1 = x.2.2 ∧ desc p a x.2.2 ∧ (d : Int) ≤ x.2.1 ∧ d ≤ 1000000
  | 0, a, d, row, h, x, hx => by simp [rowK] at h
  | k + 1, a, d, row, h, x, hx => by
    by_cases hd : d ≤ 1000000
    case neg => rw [rowK, if_neg hd] at h; cases h
    rw [rowK, if_pos hd] at h
    obtain ⟨i, hi, h1⟩ := rowsK_mem h x hx
    rcases h1 with rfl | ⟨r, hr, hxr⟩
    · exact ⟨⟨i, rfl, (kidsN_mem.1 hi).1⟩, kidsN_nx hi, desc_self _ _, Int.le_refl _, hd⟩
    · obtain ⟨h2, h3, h4, h5, _⟩ := rowK_el k (i : Int) (d + 1) r hr x hxr
      exact ⟨h2, h3, desc_up (kidsN_nx hi) h4, by omega, hd⟩
/-- Each at a place of its own; of those with one parent the lesser one ahead. -/
theorem rowK_apart {p : List Int} (hn : ∀ a, a < (p.length : Int) → ¬ cyc p a) : ∀ (k : Nat) (a : Int) (d : Nat) (row : List It3), rowK p k a d = some row → row.Pairwise fun x y => x.1 ≠ y.1 ∧ (x.2.2 = y.2.2 → x.1 < y.1)
  | 0, a, d, row, h => by simp [rowK] at h
  | k + 1, a, d, row, h => by
    by_cases hd : d ≤ 1000000
    case neg => rw [rowK, if_neg hd] at h; cases h
    rw [rowK, if_pos hd] at h
    have key : ∀ (l : List Nat), (∀ i ∈ l, i ∈ kidsN p a) → l.Pairwise (· < ·) → ∀ row, rowsK (rowK p k) a d l = some row → row.Pairwise fun x y => x.1 ≠ y.1 ∧ (x.2.2 = y.2.2 → x.1 < y.1) := by
      intro l
      induction l with
      | nil => intro _ _ row h; rw [rowsK] at h; cases h; exact List.Pairwise.nil
      | cons i l ih =>
        intro hk hs row h
        rw [rowsK] at h
        obtain ⟨X, hX, h⟩ := Option.bind_eq_some_iff.1 h
        obtain ⟨Y, hY, h⟩ := Option.bind_eq_some_iff.1 h
        obtain rfl := Option.some.inj h
        obtain ⟨hs1, hs2⟩ := List.pairwise_cons.1 hs
        have hi := hk i List.mem_cons_self
        have hi1 := (kidsN_mem.1 hi).1
        have hin := kidsN_nx hi
        -- what is said of those in X and in Y
        have inX : ∀ e ∈ X, desc p (i : Int) e.2.2 ∧ desc p (i : Int) e.1 := fun e he => by
          obtain ⟨_, h2, h3, _⟩ := rowK_el k _ _ X hX e he
          exact ⟨h3, desc_nx (by rw [h2]; exact h3)⟩
        have inY : ∀ e ∈ Y, ∃ j ∈ l, desc p (j : Int) e.1 ∧ (e = ((j : Int), (d : Int), a) ∨ desc p (j : Int) e.2.2) := fun e he => by
          obtain ⟨j, hj, h1⟩ := rowsK_mem hY e he
          rcases h1 with rfl | ⟨r, hr, her⟩
          · exact ⟨j, hj, desc_self _ _, .inl rfl⟩
          · obtain ⟨_, h2, h3, _⟩ := rowK_el k _ _ r hr e her
            exact ⟨j, hj, desc_nx (by rw [h2]; exact h3), .inr h3⟩
        have apart : ∀ {j : Nat} {q : Int}, j ∈ l → desc p (i : Int) q → desc p (j : Int) q → False := fun {j q} hj d1 d2 => by
          have hj' := hk j (List.mem_cons_of_mem _ hj)
          have h1 := (kidsN_mem.1 hj').1
          have h2 := hs1 j hj
          exact no_sib hn (by omega) (by omega) (by omega) (by omega) hin (kidsN_nx hj') (by omega) d1 d2
        refine List.pairwise_cons.2 ⟨fun e he => ?_, List.pairwise_append.2 ⟨rowK_apart hn k _ _ X hX, ih (fun j hj => hk j (List.mem_cons_of_mem _ hj)) hs2 Y hY, fun e he e' he' => ?_⟩⟩
        · rcases List.mem_append.1 he with he | he
          · obtain ⟨h1, h2⟩ := inX e he
            have hno := no_par hn (show (0 : Int) ≤ (i : Int) by omega) (by omega) hin
            obtain ⟨_, h3, _⟩ := rowK_el k _ _ X hX e he
            refine ⟨fun e1 => hno ?_, fun e1 => absurd ?_ hno⟩
            · have e2 : nx p e.1 = a := by rw [← show (i : Int) = e.1 from e1]; exact hin
              rw [e2] at h3
              rw [h3]
              exact h1
            · rw [show a = e.2.2 from e1]
              exact h1
          · obtain ⟨j, hj, h1, h2⟩ := inY e he
            refine ⟨fun e1 => apart hj (desc_self p (i : Int)) (by rw [show (i : Int) = e.1 from e1]; exact h1), fun e1 => ?_⟩
            rcases h2 with rfl | h2
            · have := hs1 j hj
              show (i : Int) < (j : Int)
              omega
            · have hj' := hk j (List.mem_cons_of_mem _ hj)
              have h3 := (kidsN_mem.1 hj').1
              exact absurd (by rw [show a = e.2.2 from e1]; exact h2) (no_par hn (show (0 : Int) ≤ (j : Int) by omega) (by omega) (kidsN_nx hj'))
        · obtain ⟨h1, h2⟩ := inX e he
          obtain ⟨j, hj, h3, h4⟩ := inY e' he'
          refine ⟨fun e1 => apart hj h2 (by rw [e1]; exact h3), fun e1 => ?_⟩
          rcases h4 with rfl | h4
          · exact absurd (by rw [← show e.2.2 = a from e1]; exact h1) (no_par hn (show (0 : Int) ≤ (i : Int) by omega) (by omega) hin)
          · exact (apart hj h1 (by rw [e1]; exact h4)).elim
    exact key _ (fun i hi => hi) (kidsN_sorted p a) row h
/-- All below a are in its row. -/
theorem rowsK_has {f : Int → Nat → Option (List It3)} {a : Int} {d : Nat} : ∀ {l : List Nat} {row : List It3}, rowsK f a d l = some row → ∀ i ∈ l, ∃ r, f (i : Int) (d + 1) = some r ∧ ((i : Int), (d : Int), a) ∈ row ∧ ∀ x ∈ r, x ∈ row
  | [], row, h, i, hi => by cases hi
  | j :: l, row, h, i, hi => by
    rw [rowsK] at h
    obtain ⟨X, hX, h⟩ := Option.bind_eq_some_iff.1 h
    obtain ⟨Y, hY, h⟩ := Option.bind_eq_some_iff.1 h
    obtain rfl := Option.some.inj h
    rcases List.mem_cons.1 hi with rfl | hi
    · exact ⟨X, hX, List.mem_cons_self, fun x hx => List.mem_cons_of_mem _ (List.mem_append_left _ hx)⟩
    · obtain ⟨r, h1, h2, h3⟩ := rowsK_has hY i hi
      exact ⟨r, h1, List.mem_cons_of_mem _ (List.mem_append_right _ h2), fun x hx => List.mem_cons_of_mem _ (List.mem_append_right _ (h3 x hx))⟩
theorem rowK_all {p : List Int} (hp : okP p) : ∀ (k : Nat) (a : Int) (d : Nat) (row : List It3), rowK p k a d = some row → ∀ (t : Nat) (b : Int), 0 ≤ b → b < (p.length : Int) → 0 ≤ up p t b → nx p (up p t b) = a → ∃ x ∈ row, x.1 = b
  | 0, a, d, row, h, t, b, b0, b1, hu, he => by simp [rowK] at h
  | k + 1, a, d, row, h, t, b, b0, b1, hu, he => by
    by_cases hd : d ≤ 1000000
    case neg => rw [rowK, if_neg hd] at h; cases h
    rw [rowK, if_pos hd] at h
    have h1 := okP_up hp t (a := b) (by omega) b1
    have hs : (up p t b).toNat ∈ kidsN p a := kidsN_mem.2 ⟨by omega, by unfold nx at he; rw [if_pos hu] at he; exact he⟩
    obtain ⟨r, hr, hm, hsub⟩ := rowsK_has h _ hs
    rw [Int.toNat_of_nonneg hu] at hr hm
    cases t with
    | zero => exact ⟨_, hm, rfl⟩
    | succ t =>
      have h2 : 0 ≤ up p t b := up_pos_le (show t ≤ t + 1 by omega) hu
      obtain ⟨x, hx, h3⟩ := rowK_all hp k _ _ r hr t b b0 b1 h2 (by rw [← up_succ])
      exact ⟨x, hsub x hx, h3⟩
theorem row_has {p : List Int} (hp : okP p) (hn : ∀ a, a < (p.length : Int) → ¬ cyc p a) {k : Nat} {row : List It3} (h : rowK p k (-1) 0 = some row) (b : Nat) (hb : b < p.length) : ∃ x ∈ row, x.1 = (b : Int) := by
  have hend := up_ends_lt hp hn (a := (b : Int)) (by omega)
  have hfirst : ∀ m, up p m (b : Int) < 0 → ∃ t, 0 ≤ up p t (b : Int) ∧ up p (t + 1) (b : Int) < 0 := by
    intro m
    induction m with
    | zero => intro h; exact absurd h (by show ¬ (b : Int) < 0; omega)
    | succ m ih =>
      intro h
      rcases Int.lt_or_le (up p m (b : Int)) 0 with h1 | h1
      · exact ih h1
      · exact ⟨m, h1, h⟩
  obtain ⟨t, h1, h2⟩ := hfirst _ hend
  have h3 := okP_up hp (t + 1) (a := (b : Int)) (by omega) (by omega)
  exact rowK_all hp k (-1) 0 row h t (b : Int) (by omega) (by omega) h1 (by rw [← up_succ]; omega)
/-- Each stands behind its parent, one deeper, and what is between them is below that. -/
theorem rowK_par {p : List Int} : ∀ (k : Nat) (a : Int) (d : Nat) (row : List It3), rowK p k a d = some row → ∀ pre x post, row = pre ++ x :: post → (x.2.2 = a ∧ x.2.1 = (d : Int)) ∨ ∃ pre1 e mid, pre = pre1 ++ e :: mid ∧ e.1 = x.2.2 ∧ x.2.1 = e.2.1 + 1 ∧ ∀ y ∈ mid, e.2.1 < y.2.1
  | 0, a, d, row, h, pre, x, post, he => by simp [rowK] at h
  | k + 1, a, d, row, h, pre, x, post, he => by
    by_cases hd : d ≤ 1000000
    case neg => rw [rowK, if_neg hd] at h; cases h
    rw [rowK, if_pos hd] at h
    have key : ∀ (l : List Nat) (row : List It3), rowsK (rowK p k) a d l = some row → ∀ pre x post, row = pre ++ x :: post → (x.2.2 = a ∧ x.2.1 = (d : Int)) ∨ ∃ pre1 e mid, pre = pre1 ++ e :: mid ∧ e.1 = x.2.2 ∧ x.2.1 = e.2.1 + 1 ∧ ∀ y ∈ mid, e.2.1 < y.2.1 := by
      intro l
      induction l with
      | nil => intro row h pre x post he; rw [rowsK] at h; cases h; simp at he
      | cons i l ih =>
        intro row h pre x post he
        rw [rowsK] at h
        obtain ⟨X, hX, h⟩ := Option.bind_eq_some_iff.1 h
        obtain ⟨Y, hY, h⟩ := Option.bind_eq_some_iff.1 h
        obtain rfl := Option.some.inj h
        cases pre with
        | nil =>
          obtain ⟨rfl, _⟩ := List.cons.inj he
          exact .inl ⟨rfl, rfl⟩
        | cons g pre =>
          obtain ⟨hg0, he1⟩ := List.cons.inj he
          subst hg0
          rcases List.append_eq_append_iff.1 he1 with ⟨m, e1, e2⟩ | ⟨m, e1, e2⟩
          · -- in Y: pre = X ++ m
            rcases ih Y hY m x post e2 with h1 | ⟨pre1, e, mid, g1, g2⟩
            · exact .inl h1
            · exact .inr ⟨((i : Int), (d : Int), a) :: (X ++ pre1), e, mid, by rw [e1, g1]; simp, g2⟩
          · cases m with
            | nil =>
              rw [List.append_nil] at e1
              rcases ih Y hY [] x post (by simpa using e2.symm) with h1 | ⟨pre1, e, mid, g1, g2⟩
              · exact .inl h1
              · simp at g1
            | cons x' m =>
              obtain ⟨rfl, _⟩ := List.cons.inj e2
              have hall : ∀ y ∈ X, ((d + 1 : Nat) : Int) ≤ y.2.1 := fun y hy => (rowK_el k _ _ X hX y hy).2.2.2.1
              rcases rowK_par k (i : Int) (d + 1) X hX pre x m e1 with ⟨h1, h2⟩ | ⟨pre1, e, mid, g1, g2⟩
              · refine .inr ⟨[], ((i : Int), (d : Int), a), pre, rfl, h1.symm, by rw [h2]; show ((d + 1 : Nat) : Int) = (d : Int) + 1; omega, fun y hy => ?_⟩
                have := hall y (by rw [e1]; exact List.mem_append_left _ hy)
                show (d : Int) < y.2.1
                omega
              · exact .inr ⟨((i : Int), (d : Int), a) :: pre1, e, mid, by rw [g1]; rfl, g2⟩
    exact key _ row h pre x post he
/-- As many as there are places. -/
theorem apart_le : ∀ (n : Nat) (l : List Int), (∀ x ∈ l, 0 ≤ x ∧ x < (n : Int)) → l.Pairwise (· ≠ ·) → l.length ≤ n := by
  intro n l hl hp
  rcases Nat.lt_or_ge n l.length with hlt | hge
  · exfalso
    obtain ⟨i, j, hij, hj, he⟩ := pigeon n (fun i => (l.getD i 0).toNat) (fun i hi => by
      have h1 : i < l.length := by omega
      have := hl l[i] (List.getElem_mem h1)
      show (l.getD i 0).toNat < n
      rw [List.getD_eq_getElem?_getD, List.getElem?_eq_getElem h1]
      show l[i].toNat < n
      omega)
    have hi' : i < l.length := by omega
    have hj' : j < l.length := by omega
    have h1 := hl l[i] (List.getElem_mem hi')
    have h2 := hl l[j] (List.getElem_mem hj')
    have he' : (l.getD i 0).toNat = (l.getD j 0).toNat := he
    rw [List.getD_eq_getElem?_getD, List.getElem?_eq_getElem hi', List.getD_eq_getElem?_getD, List.getElem?_eq_getElem hj'] at he'
    have he2 : l[i].toNat = l[j].toNat := he'
    exact (List.pairwise_iff_getElem.1 hp i j hi' hj' hij) (by omega)
  · exact hge
theorem has_ge (n : Nat) (l : List Int) (h : ∀ b : Nat, b < n → (b : Int) ∈ l) : n ≤ l.length := by
  rcases Nat.lt_or_ge l.length n with hlt | hge
  · exfalso
    have hex : ∀ b : Nat, ∃ i : Nat, b < n → i < l.length ∧ l.getD i 0 = (b : Int) := fun b => by
      by_cases hb : b < n
      · obtain ⟨i, hi, he⟩ := List.getElem_of_mem (h b hb)
        exact ⟨i, fun _ => ⟨hi, by rw [List.getD_eq_getElem?_getD, List.getElem?_eq_getElem hi]; exact he⟩⟩
      · exact ⟨0, fun hb' => absurd hb' hb⟩
    obtain ⟨g, hg⟩ := Classical.axiomOfChoice hex
    obtain ⟨i, j, hij, hj, he⟩ := pigeon l.length g (fun i hi => (hg i (by omega)).1)
    have h1 := (hg i (by omega)).2
    have h2 := (hg j (by omega)).2
    have he' : g i = g j := he
    rw [he', h2] at h1
    omega
  · exact hge
theorem row_length {p : List Int} (hp : okP p) (hn : ∀ a, a < (p.length : Int) → ¬ cyc p a) {k : Nat} {row : List It3} (h : rowK p k (-1) 0 = some row) : row.length = p.length := by
  refine Nat.le_antisymm ?_ ?_
  · have := apart_le p.length (row.map (·.1)) (fun x hx => by
      obtain ⟨e, he, rfl⟩ := List.mem_map.1 hx
      obtain ⟨⟨i, h1, h2⟩, _⟩ := rowK_el k _ _ row h e he
      omega) (List.pairwise_map.2 ((rowK_apart hn k _ _ row h).imp fun h => h.1))
    simpa using this
  · have := has_ge p.length (row.map (·.1)) (fun b hb => by
      obtain ⟨x, hx, h1⟩ := row_has hp hn h b hb
      exact List.mem_map.2 ⟨x, hx, h1⟩)
    simpa using this
end Go.Proofs.Ytacjlaiddnfpdaa.H
