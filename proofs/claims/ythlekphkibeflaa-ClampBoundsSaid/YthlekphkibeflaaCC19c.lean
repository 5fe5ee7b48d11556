/- Starts of layer 19 between nothing and what all durations come to. -/
import Derived.Test.YthlekphkibeflaaCx13
import Derived.Test.YthlekphkibeflaaCC19a
import Derived.Test.YthlekphkibeflaaCC19o
import Derived.Test.YthlekphkibeflaaH24
set_option linter.unusedVariables false
namespace Go.Proofs.Ythlekphkibeflaa.C
open Go.RowKit Go.Proofs.Ythlekphkibeflaa.H Go.Proofs.YthlekphkibeflaaW.PrintWords Go.Proofs.YthlekphkibeflaaW.PrintLast Go.Proofs.YthlekphkibeflaaW.PrintMore
def maxS (l : List PS) : Nat → Int
  | 0 => 0
  | n + 1 => mx (maxS l n) (atP l (n : Int)).s
theorem maxS_bd {l : List PS} (hq : ∀ q ∈ l, okS q) : ∀ n, 0 ≤ maxS l n ∧ maxS l n < 1125899906842624
  | 0 => ⟨by show (0 : Int) ≤ 0; decide, by show (0 : Int) < 1125899906842624; decide⟩
  | n + 1 => by
    have h1 := maxS_bd hq n
    have h2 := okS_at hq (n : Int)
    unfold okS at h2
    show 0 ≤ mx (maxS l n) (atP l (n : Int)).s ∧ mx (maxS l n) (atP l (n : Int)).s < _
    unfold mx
    split <;> omega
theorem maxS_ge (l : List PS) : ∀ (n i : Nat), i < n → (atP l (i : Int)).s ≤ maxS l n
  | 0, i, h => absurd h (by omega)
  | n + 1, i, h => by
    show _ ≤ mx (maxS l n) (atP l (n : Int)).s
    rcases Nat.lt_or_ge i n with h1 | h1
    · have := maxS_ge l n i h1
      unfold mx; split <;> omega
    · obtain rfl : i = n := by omega
      unfold mx; split <;> omega
theorem totI_bd {l : List PS} (hq : ∀ q ∈ l, okS q) : ∀ n : Nat, 0 ≤ totI (durs l) n ∧ totI (durs l) n ≤ (n : Int) * 1125899906842624
  | 0 => ⟨by show (0 : Int) ≤ 0; decide, by show (0 : Int) ≤ ((0 : Nat) : Int) * 1125899906842624; decide⟩
  | n + 1 => by
    have h1 := totI_bd hq n
    have h2 := okS_at hq (n : Int)
    unfold okS at h2
    have : (((n + 1 : Nat) : Int)) * 1125899906842624 = (n : Int) * 1125899906842624 + 1125899906842624 := by rw [Int.natCast_succ, Int.add_mul, Int.one_mul]
    show 0 ≤ totI (durs l) n + (atP l (n : Int)).t ∧ totI (durs l) n + (atP l (n : Int)).t ≤ _
    omega
theorem bounds_l2 (x5 x8 : Int) (s : List Int) (hs : s.length ≤ 60) (h8 : 0 ≤ x8 + x5 ∧ x8 + x5 < 1152921504606846976) (h : ∀ i : Nat, i < s.length → 0 ≤ rd s (i : Int) ∧ rd s (i : Int) < x8 + x5) : ∀ (d i : Nat), i + d = s.length → Ev (fun k => merkhetlaw19_ClampBounds.l2 k x5 x8 s (s.length : Int) (i : Int)) true := by
  intro d
  induction d with
  | zero => intro i hi; exact Ev.step (f := fun k => (merkhetlaw19_fixed.f k).bind fun t250 => some t250) (fun k => by rw [merkhetlaw19_ClampBounds.l2, if_neg (by omega)]) (Ev.bind law19_fixed_ev (Ev.now _))
  | succ d ih =>
    intro i hi
    have e : wrap64 ((i : Int) + 1) = ((i + 1 : Nat) : Int) := w64_ _ (by omega) (by omega)
    have e2 : wrap64 (x8 + x5) = x8 + x5 := w64_ _ (by omega) (by omega)
    have hh := h i (by omega)
    exact Ev.step (fun k => by rw [merkhetlaw19_ClampBounds.l2, if_pos (by omega), if_pos (by omega), if_pos (by omega), if_neg (by omega), e2, if_neg (by omega), e]) (ih (i + 1) (by omega))
theorem bounds_l1 (l : List PS) (x5 : Int) (s : List Int) (hl : l.length ≤ 60) (hr : Ev (fun k => merkhetlaw19_ClampBounds.l2 k x5 (maxS l l.length) s (s.length : Int) ((0 : Nat) : Int)) true) : ∀ (d i : Nat), i + d = l.length → Ev (fun k => merkhetlaw19_ClampBounds.l1 k s x5 (maxS l i) (l.map mkS) (l.length : Int) (i : Int)) true := by
  intro d
  induction d with
  | zero =>
    intro i hi
    obtain rfl : i = l.length := by omega
    exact Ev.step (fun k => by rw [merkhetlaw19_ClampBounds.l1, if_neg (by omega)]; rfl) hr
  | succ d ih =>
    intro i hi
    have e : wrap64 ((i : Int) + 1) = ((i + 1 : Nat) : Int) := w64_ _ (by omega) (by omega)
    have hx0 : rd_T34 (l.map mkS) (i : Int) = mkS (atP l (i : Int)) := rdS l _ (by omega) (by omega)
    exact Ev.step (fun k => by rw [merkhetlaw19_ClampBounds.l1, if_pos (by omega), if_pos (by omega), if_pos (by rw [List.length_map]; omega), hx0, e]; rfl) (ih (i + 1) (by omega))
theorem bounds_l0 (l : List PS) (s : List Int) (hq : ∀ q ∈ l, okS q) (hl : l.length ≤ 60) (hr : Ev (fun k => merkhetlaw19_ClampBounds.l1 k s (1 + totI (durs l) l.length) (maxS l 0) (l.map mkS) (l.length : Int) ((0 : Nat) : Int)) true) : ∀ (d i : Nat), i + d = l.length → Ev (fun k => merkhetlaw19_ClampBounds.l0 k (l.map mkS) s (1 + totI (durs l) i) (l.map mkS) (l.length : Int) (i : Int)) true := by
  intro d
  induction d with
  | zero =>
    intro i hi
    obtain rfl : i = l.length := by omega
    exact Ev.step (fun k => by rw [merkhetlaw19_ClampBounds.l0, if_neg (by omega), List.length_map]; rfl) hr
  | succ d ih =>
    intro i hi
    have e : wrap64 ((i : Int) + 1) = ((i + 1 : Nat) : Int) := w64_ _ (by omega) (by omega)
    have hx0 : rd_T34 (l.map mkS) (i : Int) = mkS (atP l (i : Int)) := rdS l _ (by omega) (by omega)
    have hb := totI_bd hq i
    have ha := okS_at hq (i : Int)
    unfold okS at ha
    have e2 : wrap64 (1 + totI (durs l) i + (mkS (atP l (i : Int))).f7) = 1 + totI (durs l) (i + 1) := by
      show wrap64 (1 + totI (durs l) i + (atP l (i : Int)).t) = 1 + (totI (durs l) i + (atP l (i : Int)).t)
      rw [w64_ _ (by omega) (by omega)]; omega
    exact Ev.step (fun k => by rw [merkhetlaw19_ClampBounds.l0, if_pos (by omega), if_pos (by omega), if_pos (by rw [List.length_map]; omega), hx0, e2, e]) (ih (i + 1) (by omega))
open Classical in
theorem bounds_ev (l : List PS) (g : gl l) (hl : l.length ≤ 60) (hm : l.all mayP = true) : Ev (fun k => merkhetlaw19_ClampBounds.j0 k (l.map mkS) false) true := by
  have hOf := refOf_ev (l.map mkS) (by rw [List.length_map]; omega)
  have hpl : (cut (parS (l.map mkS))).length = l.length := by rw [cut_length, parS_length, List.length_map]
  have hf : forestQ (cut (parS (l.map mkS))) := ⟨cut_ok (parS_ok _), fun a ha => cut_acyclic (parS_ok _) a (by rw [cut_length] at ha; exact ha)⟩
  generalize cut (parS (l.map mkS)) = p at hOf hpl hf
  have hright : rightP l p = true := by unfold rightP; exact decide_eq_true ⟨hpl.symm, hf, hm⟩
  have hS := clampStarts_ev l p g hl
  have hq : ∀ q ∈ l, okS q := (rightP_iff hright).2.2
  unfold startsR at hS
  rw [if_pos hright] at hS
  have hlen := startsP_length l p
  have hb := totI_bd hq l.length
  have hmx := maxS_bd hq l.length
  have hM : ∀ a, (atP l a).s ≤ maxS l l.length := fun a => by
    rcases Nat.lt_or_ge a.toNat l.length with h | h
    · have h1 := maxS_ge l l.length a.toNat h
      have e : atP l ((a.toNat : Nat) : Int) = atP l a := by unfold atP; rw [Int.toNat_natCast]
      rw [e] at h1; exact h1
    · unfold atP
      rw [List.getD_eq_getElem?_getD, List.getElem?_eq_none (by omega)]
      exact hmx.1
  have h2 : Ev (fun k => merkhetlaw19_ClampBounds.l2 k (1 + totI (durs l) l.length) (maxS l l.length) (startsP l p) ((startsP l p).length : Int) ((0 : Nat) : Int)) true := bounds_l2 _ _ _ (by omega) (by omega) (fun i hi => by
    have h3 := V_tot hq hf (rowOf_eq hf (by omega)) hM i (by omega)
    have h4 := V_bd hq (p := p) (by omega) (i : Int)
    have h5 : rd (startsP l p) (i : Int) = V l p (i : Int) := by
      have := startsP_at l p i (by omega)
      unfold rd
      rw [Int.toNat_natCast]; exact this
    rw [h5]
    rw [hpl] at h3
    omega) (startsP l p).length 0 (by omega)
  have h1 := bounds_l1 l (1 + totI (durs l) l.length) (startsP l p) hl h2 l.length 0 (by omega)
  have h0 := bounds_l0 l (startsP l p) hq hl h1 l.length 0 (by omega)
  refine Ev.step (f := fun k => (merkhetref10_Of.f k (l.map mkS)).bind fun t238 => ((clamp_Starts.f k (l.map mkS) t238).bind fun bt241 => (if bt241.2 = true then (merkhetlaw19_ClampBounds.j1 k (l.map mkS) bt241.1 ((bt241.1.length : Int) != ((l.map mkS).length : Int))) else (merkhetlaw19_ClampBounds.j1 k (l.map mkS) bt241.1 true)))) (fun k => by rw [merkhetlaw19_ClampBounds.j0, if_neg (by decide)]) ?_
  refine Ev.bind hOf (Ev.bind hS (Ev.congr (f := fun k => merkhetlaw19_ClampBounds.j1 k (l.map mkS) (startsP l p) false) (fun k => ?_) ?_))
  · have e : (((startsP l p).length : Int) != ((l.map mkS).length : Int)) = false := by rw [hlen, hpl, List.length_map]; exact bne_self_eq_false _
    rw [if_pos rfl, e]
  · exact Ev.step (fun k => by rw [merkhetlaw19_ClampBounds.j1, if_neg (by decide), List.length_map]; rfl) h0
end Go.Proofs.Ythlekphkibeflaa.C
