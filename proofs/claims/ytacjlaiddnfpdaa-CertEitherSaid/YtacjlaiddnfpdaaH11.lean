/- The plain mathematics of layers 10 and 11: places and the places of their parents. -/
import Derived.Test.YtacjlaiddnfpdaaWWords
set_option linter.unusedVariables false
namespace Go.Proofs.Ytacjlaiddnfpdaa.H

/-- Among n + 1 numbers below n two are one. -/
theorem pigeon : ∀ (n : Nat) (g : Nat → Nat), (∀ i, i ≤ n → g i < n) → ∃ i j, i < j ∧ j ≤ n ∧ g i = g j := by
  intro n
  induction n with
  | zero => intro g h; exact absurd (h 0 (Nat.le_refl 0)) (Nat.not_lt_zero _)
  | succ n ih =>
    intro g h
    by_cases hex : ∃ i, i ≤ n + 1 ∧ g i = n
    · obtain ⟨i0, hi0, hg0⟩ := hex
      by_cases hdup : ∃ j, j ≤ n + 1 ∧ j ≠ i0 ∧ g j = n
      · obtain ⟨j, hj, hne, hgj⟩ := hdup
        rcases Nat.lt_or_gt_of_ne hne with h1 | h1
        · exact ⟨j, i0, h1, hi0, by omega⟩
        · exact ⟨i0, j, h1, hj, by omega⟩
      · obtain ⟨i, j, hij, hjn, (he : (if i < i0 then g i else g (i + 1)) = (if j < i0 then g j else g (j + 1)))⟩ := ih (fun i => if i < i0 then g i else g (i + 1)) (fun i hi => by
          show (if i < i0 then g i else g (i + 1)) < n
          split
          · rename_i hlt
            have h1 := h i (by omega)
            have h2 : g i ≠ n := fun e => hdup ⟨i, by omega, by omega, e⟩
            omega
          · rename_i hge
            have h1 := h (i + 1) (by omega)
            have h2 : g (i + 1) ≠ n := fun e => hdup ⟨i + 1, by omega, by omega, e⟩
            omega)
        by_cases c1 : i < i0
        · by_cases c2 : j < i0
          · rw [if_pos c1, if_pos c2] at he; exact ⟨i, j, hij, by omega, he⟩
          · rw [if_pos c1, if_neg c2] at he; exact ⟨i, j + 1, by omega, by omega, he⟩
        · have c2 : ¬ j < i0 := by omega
          rw [if_neg c1, if_neg c2] at he; exact ⟨i + 1, j + 1, by omega, by omega, he⟩
    · obtain ⟨i, j, hij, hjn, he⟩ := ih g (fun i hi => by
        have h1 := h i (by omega)
        have h2 : g i ≠ n := fun e => hex ⟨i, by omega, e⟩
        omega)
      exact ⟨i, j, hij, by omega, he⟩

/-- One step up; below 0 one stays. -/
def nx (p : List Int) (a : Int) : Int := if 0 ≤ a then p.getD a.toNat 0 else a
/-- So many steps up. -/
def up (p : List Int) : Nat → Int → Int
  | 0, a => a
  | m + 1, a => up p m (nx p a)
theorem up_add (p : List Int) : ∀ (i j : Nat) (a : Int), up p (i + j) a = up p j (up p i a)
  | 0, j, a => by rw [Nat.zero_add]; rfl
  | i + 1, j, a => by rw [Nat.succ_add]; exact up_add p i j (nx p a)
theorem up_succ (p : List Int) (i : Nat) (a : Int) : up p (i + 1) a = nx p (up p i a) := by rw [up_add]; rfl
theorem up_neg (p : List Int) : ∀ (i : Nat) (a : Int), a < 0 → up p i a = a
  | 0, _, _ => rfl
  | i + 1, a, h => by
    show up p i (nx p a) = a
    rw [show nx p a = a from if_neg (by omega)]
    exact up_neg p i a h
/-- Each place is one of these, or none. -/
def okP (p : List Int) : Prop := ∀ x ∈ p, -1 ≤ x ∧ x < (p.length : Int)
theorem okP_nx {p : List Int} (h : okP p) {a : Int} (h0 : -1 ≤ a) (h1 : a < (p.length : Int)) : -1 ≤ nx p a ∧ nx p a < (p.length : Int) := by
  unfold nx
  split
  · have hl : a.toNat < p.length := by omega
    rw [List.getD_eq_getElem?_getD, List.getElem?_eq_getElem hl]
    exact h _ (List.getElem_mem hl)
  · exact ⟨h0, h1⟩
theorem okP_up {p : List Int} (h : okP p) : ∀ (i : Nat) {a : Int}, -1 ≤ a → a < (p.length : Int) → -1 ≤ up p i a ∧ up p i a < (p.length : Int)
  | 0, _, h0, h1 => ⟨h0, h1⟩
  | i + 1, a, h0, h1 => okP_up h i (okP_nx h h0 h1).1 (okP_nx h h0 h1).2
theorem up_pos_le {p : List Int} {i j : Nat} {a : Int} (hij : i ≤ j) (h : 0 ≤ up p j a) : 0 ≤ up p i a := by
  by_cases c : 0 ≤ up p i a
  · exact c
  · obtain ⟨d, rfl⟩ : ∃ d, j = i + d := ⟨j - i, by omega⟩
    rw [up_add, up_neg p d _ (by omega)] at h
    exact h
/-- Is a place on a cycle? -/
def cyc (p : List Int) (a : Int) : Prop := 0 ≤ a ∧ ∃ m, 1 ≤ m ∧ up p m a = a
/-- Whoever goes up for as long as there are places comes to one again. -/
theorem up_twice {p : List Int} (h : okP p) {a : Int} (h1 : a < (p.length : Int)) (hu : 0 ≤ up p p.length a) : ∃ i j, i < j ∧ j ≤ p.length ∧ up p i a = up p j a := by
  have h0 : 0 ≤ a := up_pos_le (i := 0) (Nat.zero_le _) hu
  obtain ⟨i, j, hij, hj, he⟩ := pigeon p.length (fun i => (up p i a).toNat) (fun i hi => by
    have := up_pos_le hi hu
    have := (okP_up h i (by omega : -1 ≤ a) h1).2
    show (up p i a).toNat < p.length
    omega)
  have hi0 := up_pos_le (p := p) (a := a) (i := i) (j := p.length) (by omega) hu
  have hj0 := up_pos_le (p := p) (a := a) (i := j) (j := p.length) hj hu
  have he' : (up p i a).toNat = (up p j a).toNat := he
  exact ⟨i, j, hij, hj, by omega⟩
/-- On a cycle one stays at places. -/
theorem cyc_pos {p : List Int} {a : Int} (h : cyc p a) (i : Nat) : 0 ≤ up p i a := by
  obtain ⟨h0, m, hm, he⟩ := h
  have key : ∀ k : Nat, up p (m * k) a = a := by
    intro k
    induction k with
    | zero => rfl
    | succ k ih => rw [Nat.mul_succ, up_add, ih, he]
  have hle : i ≤ m * i := by calc i = 1 * i := (Nat.one_mul i).symm
    _ ≤ m * i := Nat.mul_le_mul_right i hm
  exact up_pos_le hle (by rw [key]; exact h0)
theorem cyc_up {p : List Int} {a : Int} (h : cyc p a) (i : Nat) : cyc p (up p i a) := by
  refine ⟨cyc_pos h i, ?_⟩
  obtain ⟨h0, m, hm, he⟩ := h
  exact ⟨m, hm, by rw [← up_add, Nat.add_comm, up_add, he]⟩
/-- .. and comes back in no more steps than there are places. -/
theorem cyc_short {p : List Int} (h : okP p) {a : Int} (h1 : a < (p.length : Int)) (hc : cyc p a) : ∃ m, 1 ≤ m ∧ m ≤ p.length ∧ up p m a = a := by
  have hpos := cyc_pos hc
  obtain ⟨h0, m, hm, he⟩ := hc
  induction m using Nat.strongRecOn with
  | ind m ih =>
    by_cases hle : m ≤ p.length
    · exact ⟨m, hm, hle, he⟩
    · obtain ⟨i, j, hij, hj, hij2⟩ := up_twice h h1 (hpos _)
      refine ih (i + (m - j)) (by omega) (by omega) ?_
      rw [up_add, hij2, ← up_add, show j + (m - j) = m by omega]
      exact he
/-- Where one place leads to another one of its cycle, that one leads back. -/
theorem cyc_back {p : List Int} {a : Int} (h : cyc p a) (i : Nat) : ∃ j, up p j (up p i a) = a := by
  obtain ⟨h0, m, hm, he⟩ := h
  have key : ∀ k : Nat, up p (m * k) a = a := by
    intro k
    induction k with
    | zero => rfl
    | succ k ih => rw [Nat.mul_succ, up_add, ih, he]
  have hle : i ≤ m * i := by calc i = 1 * i := (Nat.one_mul i).symm
    _ ≤ m * i := Nat.mul_le_mul_right i hm
  exact ⟨m * i - i, by rw [← up_add, show i + (m * i - i) = m * i by omega]; exact key i⟩
/-- Without cycles the way up ends in no more steps than there are places. -/
theorem up_ends {p : List Int} (h : okP p) (hn : ∀ a, ¬ cyc p a) {a : Int} (h1 : a < (p.length : Int)) : up p p.length a < 0 := by
  by_cases c : up p p.length a < 0
  · exact c
  · obtain ⟨i, j, hij, hj, he⟩ := up_twice h h1 (by omega)
    refine absurd ⟨up_pos_le (j := p.length) (by omega) (by omega), j - i, by omega, ?_⟩ (hn (up p i a))
    rw [← up_add, show i + (j - i) = j by omega, he]
theorem up_ends_lt {p : List Int} (h : okP p) (hn : ∀ a, a < (p.length : Int) → ¬ cyc p a) {a : Int} (h1 : a < (p.length : Int)) : up p p.length a < 0 := by
  by_cases c : up p p.length a < 0
  · exact c
  · obtain ⟨i, j, hij, hj, he⟩ := up_twice h h1 (by omega)
    have h0 : 0 ≤ a := up_pos_le (p := p) (a := a) (i := 0) (j := p.length) (Nat.zero_le _) (by omega)
    refine absurd ⟨up_pos_le (j := p.length) (by omega) (by omega), j - i, by omega, ?_⟩ (hn (up p i a) (okP_up h i (by omega) h1).2)
    rw [← up_add, show i + (j - i) = j by omega, he]
/-- The way up ends, or comes to a cycle. -/
theorem up_cyc {p : List Int} (h : okP p) {a : Int} (h1 : a < (p.length : Int)) : (∃ i, i ≤ p.length ∧ up p i a < 0) ∨ ∃ i, i ≤ p.length ∧ cyc p (up p i a) := by
  by_cases c : up p p.length a < 0
  · exact .inl ⟨_, Nat.le_refl _, c⟩
  · obtain ⟨i, j, hij, hj, he⟩ := up_twice h h1 (by omega)
    refine .inr ⟨i, by omega, up_pos_le (j := p.length) (by omega) (by omega), j - i, by omega, ?_⟩
    rw [← up_add, show i + (j - i) = j by omega, he]
/-- Is a place on a cycle, of which it is the least? -/
def isLeast (p : List Int) (a : Int) : Prop := cyc p a ∧ ∀ i, a ≤ up p i a
theorem least_some {p : List Int} {a : Int} (h : cyc p a) : ∃ i, isLeast p (up p i a) := by
  -- the least of the values that come up
  have key : ∀ (d : Nat) (b : Int), cyc p b → b.toNat ≤ d → ∃ i, isLeast p (up p i b) := by
    intro d
    induction d with
    | zero =>
      intro b hb hd
      refine ⟨0, hb, fun i => ?_⟩
      have := cyc_pos hb i
      show b ≤ up p i b
      omega
    | succ d ih =>
      intro b hb hd
      by_cases c : ∀ i, b ≤ up p i b
      · exact ⟨0, hb, c⟩
      · obtain ⟨i, hi⟩ := Classical.not_forall.1 c
        obtain ⟨j, hj⟩ := ih (up p i b) (cyc_up hb i) (by have := cyc_pos hb i; omega)
        exact ⟨i + j, by rw [up_add]; exact hj⟩
  exact key a.toNat a h (Nat.le_refl _)
/-- A cycle has one least place. -/
theorem least_one {p : List Int} {a : Int} {i : Nat} (h : isLeast p a) (h' : isLeast p (up p i a)) : up p i a = a := by
  obtain ⟨j, hj⟩ := cyc_back h.1 i
  have h1 := h.2 i
  have h2 := h'.2 j
  rw [hj] at h2
  omega
open Classical in
/-- The places of parents, each cycle cut at its least place. -/
noncomputable def cut (p : List Int) : List Int := (List.range p.length).map fun i : Nat => if isLeast p (i : Int) then -1 else p.getD i 0
theorem cut_length (p : List Int) : (cut p).length = p.length := by simp [cut]
open Classical in
theorem cut_at (p : List Int) (i : Nat) (h : i < p.length) : (cut p).getD i 0 = if isLeast p (i : Int) then -1 else p.getD i 0 := by
  rw [List.getD_eq_getElem?_getD, List.getElem?_eq_getElem (by rw [cut_length]; exact h)]
  simp [cut]
theorem cut_ok {p : List Int} (h : okP p) : okP (cut p) := by
  intro x hx
  rw [cut_length]
  obtain ⟨i, hi, rfl⟩ := List.getElem_of_mem hx
  have hi2 : i < p.length := by rw [← cut_length p]; exact hi
  have e := cut_at p i hi2
  rw [List.getD_eq_getElem?_getD, List.getElem?_eq_getElem hi] at e
  simp only [Option.getD_some] at e
  rw [e]
  split
  · omega
  · rw [List.getD_eq_getElem?_getD, List.getElem?_eq_getElem hi2]; exact h _ (List.getElem_mem hi2)
open Classical in
theorem cut_up {p : List Int} (h : okP p) : ∀ (i : Nat) (a : Int), -1 ≤ a → a < (p.length : Int) → 0 ≤ up (cut p) i a → up (cut p) i a = up p i a ∧ ∀ j, j < i → ¬ isLeast p (up p j a)
  | 0, a, _, _, _ => ⟨rfl, fun j hj => absurd hj (Nat.not_lt_zero _)⟩
  | i + 1, a, hl, h1, hp => by
    have h0 : 0 ≤ a := up_pos_le (i := 0) (Nat.zero_le _) hp
    have hn : nx (cut p) a = if isLeast p a then -1 else nx p a := by
      unfold nx
      rw [if_pos h0, if_pos h0]
      have := cut_at p a.toNat (by omega)
      rw [Int.toNat_of_nonneg h0] at this
      exact this
    have hp' : 0 ≤ up (cut p) i (nx (cut p) a) := hp
    have hl : ¬ isLeast p a := fun hl => by
      rw [hn, if_pos hl, up_neg _ _ _ (by omega)] at hp'
      omega
    rw [if_neg hl] at hn
    rw [hn] at hp'
    obtain ⟨e1, e2⟩ := cut_up h i (nx p a) (okP_nx h (by omega) h1).1 (okP_nx h (by omega) h1).2 hp'
    refine ⟨by show up (cut p) i (nx (cut p) a) = _; rw [hn, e1]; rfl, fun j hj => ?_⟩
    cases j with
    | zero => exact hl
    | succ j => exact e2 j (by omega)
theorem cut_acyclic {p : List Int} (h : okP p) (a : Int) (h1 : a < (p.length : Int)) : ¬ cyc (cut p) a := by
  intro hc
  have hpos := cyc_pos hc
  have h0 : 0 ≤ a := hc.1
  have hall : ∀ i, up (cut p) i a = up p i a := fun i => (cut_up h i a (by omega) h1 (hpos i)).1
  have hc2 : cyc p a := by
    obtain ⟨_, m, hm, he⟩ := hc
    exact ⟨h0, m, hm, by rw [← hall]; exact he⟩
  obtain ⟨i, hi⟩ := least_some hc2
  exact (cut_up h (i + 1) a (by omega) h1 (hpos _)).2 i (by omega) hi
end Go.Proofs.Ytacjlaiddnfpdaa.H
