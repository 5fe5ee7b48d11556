/- What layer 10's Of is: the places of parents, each cycle cut at its least place. -/
import Derived.Test.YthlekphkibeflaaH12
set_option linter.unusedVariables false
namespace Go.Proofs.Ythlekphkibeflaa.H
open Go.RowKit Go.Proofs.YthlekphkibeflaaW.PrintWords Go.Proofs.YthlekphkibeflaaW.PrintLast Go.Proofs.YthlekphkibeflaaW.PrintMore

/-- The least number of steps in which one comes back. -/
theorem cyc_period {p : List Int} {a : Int} (h : cyc p a) : ∃ m, 1 ≤ m ∧ up p m a = a ∧ ∀ j, 1 ≤ j → j < m → up p j a ≠ a := by
  obtain ⟨h0, m, hm, he⟩ := h
  induction m using Nat.strongRecOn with
  | ind m ih =>
    by_cases c : ∃ j, 1 ≤ j ∧ j < m ∧ up p j a = a
    · obtain ⟨j, h1, h2, h3⟩ := c
      exact ih j h2 h1 h3
    · exact ⟨m, hm, he, fun j h1 h2 h3 => c ⟨j, h1, h2, h3⟩⟩
theorem up_mod {p : List Int} {a : Int} {m : Nat} (he : up p m a = a) (i : Nat) : up p i a = up p (i % m) a := by
  have key : ∀ k : Nat, up p (m * k) a = a := by
    intro k
    induction k with
    | zero => rfl
    | succ k ih => rw [Nat.mul_succ, up_add, ih, he]
  conv => lhs; rw [← Nat.div_add_mod i m, up_add, key]
theorem leastF_ev {p : List Int} (hp : okP p) {a : Int} (h1 : a < (p.length : Int)) (hc : cyc p a) {m : Nat} (hm : 1 ≤ m) (hne : ∀ j, 1 ≤ j → j < m → up p j a ≠ a) (he : up p m a = a) :
    ∀ (d j : Nat) (lst : Int), m - j = d → 1 ≤ j → j ≤ m → (∃ i, up p i a = lst) → (∀ i, i < j → lst ≤ up p i a) → ∃ x, Ev (fun k => leastF p a k (up p j a) lst) x ∧ (∃ i, up p i a = x) ∧ ∀ i, i < m → x ≤ up p i a := by
  intro d
  induction d with
  | zero =>
    intro j lst hd hj hjm hex hall
    obtain rfl : j = m := by omega
    exact ⟨lst, Ev.now_ (fun k => by rw [leastF, if_pos he]), hex, hall⟩
  | succ d ih =>
    intro j lst hd hj hjm hex hall
    obtain ⟨x, hx, hr⟩ := ih (j + 1) (mn lst (up p j a)) (by omega) (by omega) (by omega) (by
      unfold mn
      split
      · exact ⟨j, rfl⟩
      · exact hex) (fun i hi => by
      have hle : mn lst (up p j a) ≤ lst ∧ mn lst (up p j a) ≤ up p j a := by unfold mn; split <;> omega
      rcases Nat.lt_or_ge i j with h | h
      · have := hall i h; omega
      · obtain rfl : i = j := by omega
        exact hle.2)
    refine ⟨x, Ev.step_ (fun k => ?_) hx, hr⟩
    rw [leastF, if_neg (hne j hj (by omega)), if_pos (cyc_pos hc j), if_pos (okP_up hp j (by have := hc.1; omega) h1).2, up_succ]
    unfold nx
    rw [if_pos (cyc_pos hc j)]
theorem leastA_ev {p : List Int} (hp : okP p) {a : Int} (h1 : a < (p.length : Int)) (hc : cyc p a) : ∃ x, Ev (fun k => leastA k p a) x ∧ isLeast p x ∧ ∃ i, up p i a = x := by
  obtain ⟨m, hm, he, hne⟩ := cyc_period hc
  obtain ⟨x, hx, ⟨i, hi⟩, hall⟩ := leastF_ev hp h1 hc hm hne he (m - 1) 1 a rfl (Nat.le_refl _) hm ⟨0, rfl⟩ (fun i hi => by
    have h0 : i = 0 := by omega
    rw [h0]; exact Int.le_refl _)
  refine ⟨x, ?_, ⟨hi ▸ cyc_up hc i, fun j => ?_⟩, i, hi⟩
  · obtain ⟨K, hK⟩ := hx
    refine ⟨K, fun k hk => ?_⟩
    show leastA k p a = some x
    unfold leastA
    rw [if_pos hc.1, if_pos h1]
    have := hK k hk
    rw [show up p 1 a = p.getD a.toNat 0 by show nx p a = _; unfold nx; rw [if_pos hc.1]] at this
    exact this
  · have h2 := hall ((i + j) % m) (Nat.mod_lt _ hm)
    rw [← up_mod he, up_add, hi] at h2
    exact h2
theorem leastsF_ev {p : List Int} (hp : okP p) : ∀ fs : List Int, (∀ f ∈ fs, cyc p f ∧ f < (p.length : Int)) → ∃ ls, Ev (fun k => leastsF k p fs) ls ∧ (∀ x ∈ ls, isLeast p x ∧ x < (p.length : Int)) ∧ ∀ f ∈ fs, ∃ x ∈ ls, ∃ i, up p i f = x
  | [], _ => ⟨[], ⟨0, fun _ _ => rfl⟩, fun x hx => by simp at hx, fun f hf => by simp at hf⟩
  | f :: fs, h => by
    obtain ⟨x, hx, hl, i, hi⟩ := leastA_ev hp (h f (by simp)).2 (h f (by simp)).1
    obtain ⟨ls, hls, h1, h2⟩ := leastsF_ev hp fs (fun g hg => h g (by simp [hg]))
    refine ⟨x :: ls, Ev.bind_ hx (Ev.bind_ hls ⟨0, fun _ _ => rfl⟩), ?_, ?_⟩
    · intro y hy
      rcases List.mem_cons.1 hy with rfl | hy
      · exact ⟨hl, by rw [← hi]; exact (okP_up hp i (by have := (h f (by simp)).1.1; omega) (h f (by simp)).2).2⟩
      · exact h1 y hy
    · intro g hg
      rcases List.mem_cons.1 hg with rfl | hg
      · exact ⟨x, by simp, i, hi⟩
      · obtain ⟨y, hy, hj⟩ := h2 g hg
        exact ⟨y, by simp [hy], hj⟩
theorem clearF_ev : ∀ (ls p : List Int), (∀ x ∈ ls, 0 ≤ x ∧ x < (p.length : Int)) → ∃ q, clearF p ls = some q ∧ q.length = p.length ∧ ∀ x : Nat, x < p.length → q.getD x 0 = if (x : Int) ∈ ls then -1 else p.getD x 0
  | [], p, _ => ⟨p, rfl, rfl, fun x hx => by simp⟩
  | i :: ls, p, h => by
    have hi := h i (by simp)
    obtain ⟨q, hq, hl, hat⟩ := clearF_ev ls (p.set i.toNat (-1)) (fun x hx => by rw [List.length_set]; exact h x (by simp [hx]))
    refine ⟨q, by unfold clearF; rw [if_pos hi.1, if_pos hi.2]; exact hq, by rw [hl, List.length_set], fun x hx => ?_⟩
    rw [hat x (by rw [List.length_set]; exact hx), getD_set _ _ _ _ (by omega)]
    by_cases c : (x : Int) ∈ ls
    · rw [if_pos c, if_pos (List.mem_cons_of_mem _ c)]
    · rw [if_neg c]
      by_cases e : x = i.toNat
      · rw [if_pos e, if_pos (by rw [show (x : Int) = i by omega]; simp)]
      · rw [if_neg e, if_neg (fun hm => by
          rcases List.mem_cons.1 hm with h1 | h1
          · omega
          · exact c h1)]
theorem of_plain {p : List Int} (hp : okP p) : Ev (fun k => (cyclesF k p).bind fun fs => (leastsF k p fs).bind fun ls => clearF p ls) (cut p) := by
  obtain ⟨fs, hfs, h1, h2⟩ := cyclesF_ev hp
  obtain ⟨ls, hls, h3, h4⟩ := leastsF_ev hp fs h1
  obtain ⟨q, hq, hl, hat⟩ := clearF_ev ls p (fun x hx => ⟨(h3 x hx).1.1.1, (h3 x hx).2⟩)
  refine Ev.bind_ hfs (Ev.bind_ hls ⟨0, fun _ _ => ?_⟩)
  show clearF p ls = some (cut p)
  rw [hq]
  refine congrArg some ?_
  apply List.ext_getElem
  · rw [hl, cut_length]
  · intro x hx1 hx2
    have hx : x < p.length := by omega
    have e1 := hat x hx
    have e2 := cut_at p x hx
    rw [List.getD_eq_getElem?_getD, List.getElem?_eq_getElem hx1] at e1
    rw [List.getD_eq_getElem?_getD, List.getElem?_eq_getElem hx2] at e2
    simp only [Option.getD_some] at e1 e2
    rw [e1, e2]
    by_cases c : isLeast p (x : Int)
    · rw [if_pos c]
      obtain ⟨f, hf, m, hm⟩ := h2 x hx c.1
      obtain ⟨y, hy, i, hi⟩ := h4 f hf
      have hyl := (h3 y hy).1
      rw [← hm, ← up_add] at hi
      rw [← hi] at hyl
      have := least_one c hyl
      rw [if_pos (by rw [← this, hi]; exact hy)]
    · rw [if_neg c, if_neg (fun hm => c (h3 _ hm).1)]
theorem par0_ok (ids ps : List Int) (h : ps.length = ids.length) : okP (par0 ids ps) := by
  intro x hx
  unfold par0 at hx ⊢
  obtain ⟨y, hy, rfl⟩ := List.mem_map.1 hx
  rw [List.length_map, h]
  split
  · omega
  · exact firstI_lt ids y
/-- Without cycles nothing is found; with one something is. -/
theorem right_plain {p : List Int} (hp : okP p) : ∃ b : Bool, Ev (fun k => (cyclesF k p).map (fun fs => fs.isEmpty)) b ∧ (b = true ↔ ∀ a, a < (p.length : Int) → ¬ cyc p a) := by
  obtain ⟨fs, hfs, h1, h2⟩ := cyclesF_ev hp
  refine ⟨fs.isEmpty, ?_, ?_⟩
  · obtain ⟨K, hK⟩ := hfs
    exact ⟨K, fun k hk => by have h_ := hK k hk; simp only [] at h_; show (cyclesF k p).map _ = _; rw [h_]; rfl⟩
  · cases fs with
    | nil =>
      refine ⟨fun _ a hlt hc => ?_, fun _ => rfl⟩
      have h0 := hc.1
      obtain ⟨f, hf, _⟩ := h2 a.toNat (by omega) (by rw [Int.toNat_of_nonneg h0]; exact hc)
      simp at hf
    | cons f fs =>
      refine ⟨fun h => absurd h (by simp), fun h => absurd (h1 f (by simp)).1 (h f (h1 f (by simp)).2)⟩
end Go.Proofs.Ythlekphkibeflaa.H
