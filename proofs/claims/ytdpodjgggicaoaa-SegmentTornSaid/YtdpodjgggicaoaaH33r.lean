/- The plain mathematics of layer 7: a segment that is cut off. -/
import Derived.Test.YtdpodjgggicaoaaH29r
set_option linter.unusedVariables false
set_option linter.unusedSimpArgs false
namespace Go.Proofs.Ytdpodjgggicaoaa.H
def bodyX (x : List PS) : List Nat := (wirePut x).1
def frX (x : List PS) : List Nat := (framePut (bodyX x)).1
structure okX (x : List PS) : Prop where
  good : ∀ p ∈ x, p.good
  may : (wirePut x).2 = 0
theorem okX_parts {x : List PS} (h : okX x) : 1 ≤ x.length ∧ x.length ≤ 32 ∧ bodyX x = spanHead ++ nb 2 x.length ++ x.flatMap bytesP := by
  have h2 := h.may
  unfold wirePut at h2
  split at h2
  · rename_i hc
    refine ⟨hc.1, hc.2.1, ?_⟩
    unfold bodyX wirePut
    rw [if_pos hc]
  · exact absurd h2 (by simp)
theorem bodyX_length {x : List PS} (h : okX x) : 1 ≤ (bodyX x).length ∧ (bodyX x).length ≤ 2406 := by
  refine ⟨?_, wirePut_length x⟩
  rw [(okX_parts h).2.2]
  simp only [List.length_append, spanHead, List.length_cons]
  omega
theorem bodyX_isB {x : List PS} (h : okX x) : isB (bodyX x) := wirePut_isB h.good
theorem frX_put {x : List PS} (h : okX x) : (framePut (bodyX x)).2 = 0 := by
  unfold framePut
  rw [if_pos (bodyX_length h)]
theorem frX_length {x : List PS} (h : okX x) : (frX x).length = 6 + (bodyX x).length := (framePut_length _ (frX_put h)).1
theorem frX_isB {x : List PS} (h : okX x) : isB (frX x) := framePut_isB (bodyX_isB h)
theorem frameAt_cut {b : List Nat} (hb : isB b) (h : (framePut b).2 = 0) (n : Nat) (hn : n < (framePut b).1.length) : frameAt ((framePut b).1.take n) = .error 2 := by
  obtain ⟨hl, h1, h2⟩ := framePut_length b h
  have hv : (framePut b).1 = nb 2 b.length ++ nb 4 (fsum b) ++ b := by unfold framePut; rw [if_pos ⟨h1, h2⟩]
  have hlen : ((framePut b).1.take n).length = n := by rw [List.length_take]; omega
  unfold frameAt
  rw [hlen]
  by_cases c : n < 6
  · rw [if_pos c]
  have e2 : ((framePut b).1.take n).take 2 = nb 2 b.length := by
    rw [List.take_take, Nat.min_eq_left (by omega), hv, List.append_assoc]
    exact List.take_left' (nb_length _ _)
  have n2 : num (nb 2 b.length) = b.length := by
    rw [num_nb]; have e : (256 : Nat) ^ 2 = 65536 := by decide
    rw [e]; omega
  rw [if_neg c, e2, n2, if_neg (by omega), if_neg (by omega), if_pos (by omega)]
def wholeX (cut : Nat) : Nat → Nat → List (List PS) → Nat × Nat
  | 0, p, _ => (0, p)
  | _ + 1, p, [] => (0, p)
  | c + 1, p, x :: r => if p + (frX x).length ≤ cut then ((wholeX cut c (p + (frX x).length) r).1 + 1, (wholeX cut c (p + (frX x).length) r).2) else (0, p)
theorem wholeX_le (cut : Nat) : ∀ (c p : Nat) (L : List (List PS)), (wholeX cut c p L).1 ≤ L.length ∧ (wholeX cut c p L).1 ≤ c := by
  intro c
  induction c with
  | zero => intro p L; exact ⟨Nat.zero_le _, Nat.le_refl _⟩
  | succ c ih =>
    intro p L
    cases L with
    | nil => exact ⟨Nat.le_refl _, Nat.zero_le _⟩
    | cons x r =>
      rw [wholeX]
      split
      · have := ih (p + (frX x).length) r
        simp only [List.length_cons]
        omega
      · exact ⟨Nat.zero_le _, Nat.zero_le _⟩
theorem segRows_cut (cut : Nat) : ∀ (c : Nat) (L : List (List PS)) (P : List Nat), (∀ x ∈ L, okX x) → P.length ≤ cut →
    segRows c ((P ++ (L.map frX).flatten).take cut) P.length = ((L.take (wholeX cut c P.length L).1).map bodyX, (wholeX cut c P.length L).2) := by
  intro c
  induction c with
  | zero => intro L P _ _; simp [segRows, wholeX]
  | succ c ih =>
    intro L P hL hP
    have hd : ((P ++ (L.map frX).flatten).take cut).drop P.length = ((L.map frX).flatten).take (cut - P.length) := by rw [List.drop_take, List.drop_left' rfl]
    rw [segRows, hd]
    cases L with
    | nil =>
      have e : frameAt (((([] : List (List PS)).map frX).flatten).take (cut - P.length)) = .error 2 := by simp [frameAt]
      rw [e]
      simp [wholeX]
    | cons x r =>
      have hx := hL x List.mem_cons_self
      have hfl := frX_length hx
      rw [wholeX, List.map_cons, List.flatten_cons]
      by_cases h : P.length + (frX x).length ≤ cut
      · rw [if_pos h, List.take_append, List.take_of_length_le (by omega)]
        rw [show frX x = (framePut (bodyX x)).1 from rfl, frameAt_put (bodyX_isB hx) (frX_put hx)]
        have hw : wireGet (bodyX x) = .ok x := wireGet_put hx.good hx.may
        simp only [hw]
        have r1 := ih r (P ++ frX x) (fun y hy => hL y (List.mem_cons_of_mem _ hy)) (by rw [List.length_append]; exact h)
        rw [List.length_append, List.append_assoc] at r1
        have hp : P.length + 6 + (bodyX x).length = P.length + (frX x).length := by omega
        have e5 : (framePut (bodyX x)).1 = frX x := rfl
        rw [hp, e5, r1, List.take_succ_cons, List.map_cons]
      · rw [if_neg h]
        have hlt : cut - P.length < (frX x).length := by omega
        have e : (frX x ++ (r.map frX).flatten).take (cut - P.length) = (frX x).take (cut - P.length) := by rw [List.take_append, show cut - P.length - (frX x).length = 0 by omega, List.take_zero, List.append_nil]
        rw [e, show frX x = (framePut (bodyX x)).1 from rfl, frameAt_cut (bodyX_isB hx) (frX_put hx) _ hlt]
        rfl
theorem segBegin_more (n k : Nat) (hn : n < 4294967296) (h1 : 1 ≤ k) (h2 : k ≤ 16) (b : List Nat) (hb : b.take 14 = segHead n k) : segBegin b = ((n : Int), (k : Int), b, 0) := by
  have hl : 14 ≤ b.length := by
    have := congrArg List.length hb
    rw [segHead_length, List.length_take] at this
    omega
  have h := segBegin_head n k hn h1 h2
  rw [← hb] at h
  have e4 : (b.take 14).take 4 = b.take 4 := by rw [List.take_take]; rfl
  have e10 : (b.take 14).take 10 = b.take 10 := by rw [List.take_take]; rfl
  have d10 : ((b.take 14).drop 10).take 4 = (b.drop 10).take 4 := by rw [List.drop_take, List.take_take]; rfl
  have d8 : ((b.take 14).drop 8).take 2 = (b.drop 8).take 2 := by rw [List.drop_take, List.take_take]; rfl
  have d4 : ((b.take 14).drop 4).take 4 = (b.drop 4).take 4 := by rw [List.drop_take, List.take_take]; rfl
  have l14 : (b.take 14).length = 14 := by rw [List.length_take]; omega
  unfold segBegin at h ⊢
  rw [l14, e4, e10, d10, d8, d4, if_neg (by decide)] at h
  rw [if_neg (by omega)]
  by_cases c1 : b.take 4 ≠ segLetters
  · rw [if_pos c1] at h
    exact absurd (congrArg (fun x => x.2.2.2) h) (by simp)
  rw [if_neg c1] at h ⊢
  by_cases c2 : num ((b.drop 10).take 4) ≠ sumFrom 0 (b.take 10)
  · rw [if_pos c2] at h
    exact absurd (congrArg (fun x => x.2.2.2) h) (by simp)
  rw [if_neg c2] at h ⊢
  by_cases c3 : 1 ≤ num ((b.drop 8).take 2) ∧ num ((b.drop 8).take 2) ≤ 16
  · rw [if_pos c3] at h ⊢
    have h1 := congrArg (fun x => x.1) h
    have h2 := congrArg (fun x => x.2.1) h
    simp only [] at h1 h2
    rw [h1, h2]
  · rw [if_neg c3] at h
    exact absurd (congrArg (fun x => x.2.2.2) h) (by simp)
end Go.Proofs.Ytdpodjgggicaoaa.H
