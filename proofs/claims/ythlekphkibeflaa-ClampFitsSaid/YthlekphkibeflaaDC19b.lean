/- Do starts fit: the program's answer and the document's. -/
import Derived.Test.YthlekphkibeflaaDx5
import Derived.Test.YthlekphkibeflaaDx9
import Derived.Test.YthlekphkibeflaaDC19a
set_option linter.unusedVariables false
namespace Go.Proofs.Ythlekphkibeflaa.D
open Go.RowKit Go.Proofs.Ythlekphkibeflaa.H Go.Proofs.YthlekphkibeflaaW.PrintWords Go.Proofs.YthlekphkibeflaaW.PrintLast Go.Proofs.YthlekphkibeflaaW.PrintMore
def fitB (l : List PS) (p s : List Int) (i : Nat) : Bool :=
  if rd p (i : Int) < 0 then decide (rd s (i : Int) = (atP l (i : Int)).s)
  else if (atP l (i : Int)).t > (atP l (rd p (i : Int))).t then decide (rd s (i : Int) = rd s (rd p (i : Int)))
  else if rd s (i : Int) < rd s (rd p (i : Int)) then false
  else if rd s (i : Int) + (atP l (i : Int)).t > rd s (rd p (i : Int)) + (atP l (rd p (i : Int))).t then false else true
def allF (f : Nat → Bool) : Nat → Nat → Bool
  | 0, _ => true
  | d + 1, i => f i && allF f d (i + 1)
theorem allF_true {f : Nat → Bool} : ∀ (d i : Nat), (∀ j, j < i + d → f j = true) → allF f d i = true
  | 0, _, _ => rfl
  | d + 1, i, h => by
    unfold allF
    rw [h i (by omega), allF_true d (i + 1) (fun j hj => h j (by omega)), Bool.true_and]
def inB (c : Int) : Bool := !(decide (c < 0) || decide (c ≥ 1152921504606846976))
theorem rd_in {s : List Int} (h : s.all inB = true) (a : Int) : 0 ≤ rd s a ∧ rd s a < 1152921504606846976 := by
  unfold rd
  rw [List.getD_eq_getElem?_getD]
  cases e : s[a.toNat]? with
  | none => exact ⟨by decide, by decide⟩
  | some c =>
    have := List.all_eq_true.1 h c (List.mem_of_getElem? e)
    unfold inB at this
    simp at this
    exact this
theorem okP_rd {p : List Int} (h : okP p) (i : Nat) (hi : i < p.length) : -1 ≤ rd p (i : Int) ∧ rd p (i : Int) < (p.length : Int) := by
  have := okP_nx h (a := (i : Int)) (by omega) (by omega)
  unfold nx at this
  rw [if_pos (by omega)] at this
  exact this
theorem clampFits_l0 (l : List PS) {p s : List Int} (hq : ∀ q ∈ l, okS q) (h : okP p) (hl : p.length ≤ 60) (hlen : l.length = p.length) (hs : s.length = p.length) (hin : s.all inB = true) : ∀ (d i : Nat), i + d = p.length → Ev (fun k => clamp_Fits.l0 k (l.map mkS) s p (p.length : Int) (i : Int)) (allF (fitB l p s) d i) := by
  intro d
  induction d with
  | zero => intro i hi; exact Ev.step (f := fun _ => some true) (fun k => by rw [clamp_Fits.l0, if_neg (by omega)]) (Ev.now _)
  | succ d ih =>
    intro i hi
    have e : wrap64 ((i : Int) + 1) = ((i + 1 : Nat) : Int) := w64_ _ (by omega) (by omega)
    have ih' := ih (i + 1) (by omega)
    have ok := okP_rd h i (by omega)
    have hx0 : rd_T34 (l.map mkS) (i : Int) = mkS (atP l (i : Int)) := rdS l _ (by omega) (by omega)
    have hL : ((l.map mkS).length : Int) = (p.length : Int) := by rw [List.length_map, hlen]
    have i0 := rd_in hin (i : Int)
    have i1 := rd_in hin (rd p (i : Int))
    have q0 := okS_at hq (i : Int)
    have q1 := okS_at hq (rd p (i : Int))
    unfold allF fitB
    by_cases c : rd p (i : Int) < 0
    · rw [if_pos c]
      by_cases c2 : rd s (i : Int) = (atP l (i : Int)).s
      · rw [decide_eq_true c2, Bool.true_and]
        exact Ev.step (fun k => by rw [clamp_Fits.l0, if_pos (by omega), if_pos (by omega), if_pos (by omega), if_pos c, if_pos (by omega), if_pos (by omega), hx0, if_pos (show rd s (i : Int) = (mkS (atP l (i : Int))).f6 from c2), e]) ih'
      · rw [decide_eq_false c2, Bool.false_and]
        exact Ev.step (f := fun _ => some false) (fun k => by rw [clamp_Fits.l0, if_pos (by omega), if_pos (by omega), if_pos (by omega), if_pos c, if_pos (by omega), if_pos (by omega), hx0, if_neg (show ¬ rd s (i : Int) = (mkS (atP l (i : Int))).f6 from c2)]) (Ev.now _)
    rw [if_neg c]
    have hx1 : rd_T34 (l.map mkS) (rd p (i : Int)) = mkS (atP l (rd p (i : Int))) := rdS l _ (by omega) (by omega)
    generalize atP l (rd p (i : Int)) = y at hx1 q1 ⊢
    generalize atP l (i : Int) = x at hx0 q0 ⊢
    unfold okS at q0 q1
    by_cases c3 : x.t > y.t
    · rw [if_pos c3]
      by_cases c2 : rd s (i : Int) = rd s (rd p (i : Int))
      · rw [decide_eq_true c2, Bool.true_and]
        exact Ev.step (fun k => by rw [clamp_Fits.l0, if_pos (by omega), if_pos (by omega), if_pos (by omega), if_neg c, if_pos (by omega), if_pos (by omega), if_pos (by omega), hx0, hx1, if_pos (show (mkS x).f7 > (mkS y).f7 from c3), if_pos (by omega), if_pos (by omega), if_pos c2, e]) ih'
      · rw [decide_eq_false c2, Bool.false_and]
        exact Ev.step (f := fun _ => some false) (fun k => by rw [clamp_Fits.l0, if_pos (by omega), if_pos (by omega), if_pos (by omega), if_neg c, if_pos (by omega), if_pos (by omega), if_pos (by omega), hx0, hx1, if_pos (show (mkS x).f7 > (mkS y).f7 from c3), if_pos (by omega), if_pos (by omega), if_neg c2]) (Ev.now _)
    rw [if_neg c3]
    have e1 : wrap64 (rd s (i : Int) + (mkS x).f7) = rd s (i : Int) + x.t := by show wrap64 (rd s (i : Int) + x.t) = _; exact w64_ _ (by omega) (by omega)
    have e2 : wrap64 (rd s (rd p (i : Int)) + (mkS y).f7) = rd s (rd p (i : Int)) + y.t := by show wrap64 (rd s (rd p (i : Int)) + y.t) = _; exact w64_ _ (by omega) (by omega)
    by_cases c4 : rd s (i : Int) < rd s (rd p (i : Int))
    · rw [if_pos c4, Bool.false_and]
      exact Ev.step (f := fun _ => some false) (fun k => by rw [clamp_Fits.l0, if_pos (by omega), if_pos (by omega), if_pos (by omega), if_neg c, if_pos (by omega), if_pos (by omega), if_pos (by omega), hx0, hx1, if_neg (show ¬ (mkS x).f7 > (mkS y).f7 from c3), if_pos (by omega), if_pos (by omega), if_pos c4]) (Ev.now _)
    rw [if_neg c4]
    by_cases c5 : rd s (i : Int) + x.t > rd s (rd p (i : Int)) + y.t
    · rw [if_pos c5, Bool.false_and]
      exact Ev.step (f := fun _ => some false) (fun k => by rw [clamp_Fits.l0, if_pos (by omega), if_pos (by omega), if_pos (by omega), if_neg c, if_pos (by omega), if_pos (by omega), if_pos (by omega), hx0, hx1, if_neg (show ¬ (mkS x).f7 > (mkS y).f7 from c3), if_pos (by omega), if_pos (by omega), if_neg c4, e1, e2, if_pos c5]) (Ev.now _)
    · rw [if_neg c5, Bool.true_and]
      exact Ev.step (fun k => by rw [clamp_Fits.l0, if_pos (by omega), if_pos (by omega), if_pos (by omega), if_neg c, if_pos (by omega), if_pos (by omega), if_pos (by omega), hx0, hx1, if_neg (show ¬ (mkS x).f7 > (mkS y).f7 from c3), if_pos (by omega), if_pos (by omega), if_neg c4, e1, e2, if_neg c5, e]) ih'
open Classical in
noncomputable def fitsP (l : List PS) (p s : List Int) : Bool := rightP l p && (decide (s.length = l.length) && (s.all inB && allF (fitB l p s) p.length 0))
theorem any_inB (s : List Int) : (s.any fun c => decide (c < 0) || decide (c ≥ 1152921504606846976)) = !s.all inB := by
  induction s with
  | nil => rfl
  | cons c s ih =>
    rw [List.any_cons, List.all_cons, ih, Bool.not_and]
    unfold inB
    rw [Bool.not_not]
theorem clampFits_ev (l : List PS) (p s : List Int) (g : gl l) (hl : l.length ≤ 60) : Ev (fun k => clamp_Fits.f k (l.map mkS) p s) (fitsP l p s) := by
  have jt : Ev (fun k => clamp_Fits.j0 k (l.map mkS) p s true) false := Ev.step (f := fun _ => some false) (fun k => by rw [clamp_Fits.j0, if_pos rfl]) (Ev.now _)
  unfold clamp_Fits.f fitsP
  refine Ev.bind (clampRight_ev l p g hl) ?_
  cases c : rightP l p with
  | false => exact Ev.congr (fun k => if_neg (by decide)) jt
  | true =>
    obtain ⟨hlen, hf, hq⟩ := rightP_iff c
    rw [Bool.true_and]
    refine Ev.congr (fun k => if_pos rfl) ?_
    by_cases c2 : s.length = l.length
    · rw [decide_eq_true c2, Bool.true_and]
      refine Ev.congr (fun k => if_pos (by rw [List.length_map, c2])) ?_
      refine Ev.bind (Ev.congr (f := fun _ => some (!s.all inB)) (fun k => by unfold slices_ContainsFunc_int64_int64.f; rw [if_pos rfl, any_inB]) (Ev.now _)) ?_
      cases c3 : s.all inB with
      | false => exact jt
      | true =>
        rw [Bool.true_and]
        exact Ev.step (fun k => by rw [Bool.not_true, clamp_Fits.j0, if_neg (by decide)]; rfl) (clampFits_l0 l hq hf.1 (by omega) hlen (by omega) c3 p.length 0 (by omega))
    · rw [decide_eq_false c2, Bool.false_and]
      exact Ev.congr (fun k => if_neg (by rw [List.length_map]; omega)) jt
theorem refFits_l1 (l : List PS) {p s : List Int} (hq : ∀ q ∈ l, okS q) (h : okP p) (hl : p.length ≤ 60) (hlen : l.length = p.length) (hs : s.length = p.length) (hin : s.all inB = true) : ∀ (d i : Nat), i + d = p.length → Ev (fun k => merkhetref19_Fits.l1 k (l.map mkS) p s (i : Int)) (allF (fitB l p s) d i) := by
  intro d
  induction d with
  | zero => intro i hi; exact Ev.step (f := fun _ => some true) (fun k => by rw [merkhetref19_Fits.l1, if_neg (by rw [List.length_map]; omega)]) (Ev.now _)
  | succ d ih =>
    intro i hi
    have e : wrap64 ((i : Int) + 1) = ((i + 1 : Nat) : Int) := w64_ _ (by omega) (by omega)
    have ih' := ih (i + 1) (by omega)
    have ok := okP_rd h i (by omega)
    have hx0 : rd_T34 (l.map mkS) (i : Int) = mkS (atP l (i : Int)) := rdS l _ (by omega) (by omega)
    have hL : ((l.map mkS).length : Int) = (p.length : Int) := by rw [List.length_map, hlen]
    have i0 := rd_in hin (i : Int)
    have i1 := rd_in hin (rd p (i : Int))
    have q0 := okS_at hq (i : Int)
    have q1 := okS_at hq (rd p (i : Int))
    unfold allF fitB
    by_cases c : rd p (i : Int) < 0
    · rw [if_pos c]
      refine Ev.step (f := fun k => merkhetref19_Fits.j3 k (l.map mkS) p s (i : Int) (rd p (i : Int)) (rd s (i : Int) != (atP l (i : Int)).s)) (fun k => by rw [merkhetref19_Fits.l1, if_pos (by omega), if_pos (by omega), if_pos (by omega), if_pos c, if_pos (by omega), hx0]; rfl) ?_
      by_cases c2 : rd s (i : Int) = (atP l (i : Int)).s
      · rw [decide_eq_true c2, Bool.true_and]
        exact Ev.step (fun k => by rw [bne, beq_iff_eq.2 c2, Bool.not_true, merkhetref19_Fits.j3, if_neg (by decide), if_pos c, e]) ih'
      · rw [decide_eq_false c2, Bool.false_and]
        exact Ev.step (f := fun _ => some false) (fun k => by rw [merkhetref19_Fits.j3, if_pos (bne_iff_ne.2 c2)]) (Ev.now _)
    rw [if_neg c]
    have hx1 : rd_T34 (l.map mkS) (rd p (i : Int)) = mkS (atP l (rd p (i : Int))) := rdS l _ (by omega) (by omega)
    refine Ev.step (f := fun k => merkhetref19_Fits.j3 k (l.map mkS) p s (i : Int) (rd p (i : Int)) false) (fun k => by rw [merkhetref19_Fits.l1, if_pos (by omega), if_pos (by omega), if_pos (by omega), if_neg c]) ?_
    generalize atP l (rd p (i : Int)) = y at hx1 q1 ⊢
    generalize atP l (i : Int) = x at hx0 q0 ⊢
    unfold okS at q0 q1
    by_cases c3 : x.t > y.t
    · rw [if_pos c3]
      by_cases c2 : rd s (i : Int) = rd s (rd p (i : Int))
      · rw [decide_eq_true c2, Bool.true_and]
        exact Ev.step (fun k => by rw [merkhetref19_Fits.j3, if_neg (by decide), if_neg c, if_pos (by omega), if_pos (by omega), if_pos (by omega), if_pos (by omega), hx0, hx1, if_pos (show (mkS x).f7 > (mkS y).f7 from c3), if_pos (by omega), if_pos (by omega), if_pos c2, e]) ih'
      · rw [decide_eq_false c2, Bool.false_and]
        exact Ev.step (f := fun _ => some false) (fun k => by rw [merkhetref19_Fits.j3, if_neg (by decide), if_neg c, if_pos (by omega), if_pos (by omega), if_pos (by omega), if_pos (by omega), hx0, hx1, if_pos (show (mkS x).f7 > (mkS y).f7 from c3), if_pos (by omega), if_pos (by omega), if_neg c2]) (Ev.now _)
    rw [if_neg c3]
    have e1 : wrap64 (rd s (i : Int) + (mkS x).f7) = rd s (i : Int) + x.t := by show wrap64 (rd s (i : Int) + x.t) = _; exact w64_ _ (by omega) (by omega)
    have e2 : wrap64 (rd s (rd p (i : Int)) + (mkS y).f7) = rd s (rd p (i : Int)) + y.t := by show wrap64 (rd s (rd p (i : Int)) + y.t) = _; exact w64_ _ (by omega) (by omega)
    by_cases c4 : rd s (i : Int) < rd s (rd p (i : Int))
    · rw [if_pos c4, Bool.false_and]
      exact Ev.step (f := fun _ => some false) (fun k => by rw [merkhetref19_Fits.j3, if_neg (by decide), if_neg c, if_pos (by omega), if_pos (by omega), if_pos (by omega), if_pos (by omega), hx0, hx1, if_neg (show ¬ (mkS x).f7 > (mkS y).f7 from c3), if_pos (by omega), if_pos (by omega), if_pos c4]) (Ev.now _)
    rw [if_neg c4]
    by_cases c5 : rd s (i : Int) + x.t > rd s (rd p (i : Int)) + y.t
    · rw [if_pos c5, Bool.false_and]
      exact Ev.step (f := fun _ => some false) (fun k => by rw [merkhetref19_Fits.j3, if_neg (by decide), if_neg c, if_pos (by omega), if_pos (by omega), if_pos (by omega), if_pos (by omega), hx0, hx1, if_neg (show ¬ (mkS x).f7 > (mkS y).f7 from c3), if_pos (by omega), if_pos (by omega), if_neg c4, e1, e2, if_pos c5]) (Ev.now _)
    · rw [if_neg c5, Bool.true_and]
      exact Ev.step (fun k => by rw [merkhetref19_Fits.j3, if_neg (by decide), if_neg c, if_pos (by omega), if_pos (by omega), if_pos (by omega), if_pos (by omega), hx0, hx1, if_neg (show ¬ (mkS x).f7 > (mkS y).f7 from c3), if_pos (by omega), if_pos (by omega), if_neg c4, e1, e2, if_neg c5, e]) ih'
theorem refFits_l0 (l : List PS) {p s : List Int} (hs : s.length ≤ 60) {r : Bool} (hr : s.all inB = true → Ev (fun k => merkhetref19_Fits.l1 k (l.map mkS) p s 0) r) : ∀ (d i : Nat), i + d = s.length → (∀ j, j < i → inB (rd s (j : Int)) = true) → Ev (fun k => merkhetref19_Fits.l0 k (l.map mkS) p s (i : Int)) (s.all inB && r) := by
  intro d
  induction d with
  | zero =>
    intro i hi ha
    have hall : s.all inB = true := List.all_eq_true.2 fun c hc => by
      obtain ⟨j, hj, rfl⟩ := List.getElem_of_mem hc
      have := ha j (by omega)
      unfold rd at this
      rw [Int.toNat_natCast, List.getD_eq_getElem?_getD, List.getElem?_eq_getElem hj] at this
      exact this
    rw [hall, Bool.true_and]
    exact Ev.step (fun k => by rw [merkhetref19_Fits.l0, if_neg (by omega)]) (hr hall)
  | succ d ih =>
    intro i hi ha
    have e : wrap64 ((i : Int) + 1) = ((i + 1 : Nat) : Int) := w64_ _ (by omega) (by omega)
    have hmem : rd s (i : Int) ∈ s := by
      unfold rd
      rw [Int.toNat_natCast, List.getD_eq_getElem?_getD, List.getElem?_eq_getElem (by omega)]
      exact List.getElem_mem _
    have hno : inB (rd s (i : Int)) = false → s.all inB = false := fun hb => by
      cases ht : s.all inB with
      | false => rfl
      | true => rw [List.all_eq_true.1 ht _ hmem] at hb; cases hb
    by_cases c1 : rd s (i : Int) < 0
    · rw [hno (by unfold inB; rw [decide_eq_true c1]; rfl), Bool.false_and]
      exact Ev.step (f := fun _ => some false) (fun k => by rw [merkhetref19_Fits.l0, if_pos (by omega), if_pos (by omega), if_pos c1]) (Ev.now _)
    by_cases c2 : rd s (i : Int) > 1152921504606846975
    · rw [hno (by unfold inB; rw [decide_eq_true (show rd s (i : Int) ≥ 1152921504606846976 by omega), Bool.or_true]; rfl), Bool.false_and]
      exact Ev.step (f := fun _ => some false) (fun k => by rw [merkhetref19_Fits.l0, if_pos (by omega), if_pos (by omega), if_neg c1, if_pos c2]) (Ev.now _)
    · refine Ev.step (fun k => by rw [merkhetref19_Fits.l0, if_pos (by omega), if_pos (by omega), if_neg c1, if_neg c2, e]) (ih (i + 1) (by omega) (fun j hj => ?_))
      rcases Nat.lt_or_ge j i with hji | hji
      · exact ha j hji
      · obtain rfl : j = i := by omega
        unfold inB
        rw [decide_eq_false c1, decide_eq_false (by omega)]
        rfl
theorem refFits_ev (l : List PS) (p s : List Int) (g : gl l) (hl : l.length ≤ 60) : Ev (fun k => merkhetref19_Fits.f k (l.map mkS) p s) (fitsP l p s) := by
  have jt : Ev (fun k => merkhetref19_Fits.j0 k (l.map mkS) p s true) false := Ev.step (f := fun _ => some false) (fun k => by rw [merkhetref19_Fits.j0, if_pos rfl]) (Ev.now _)
  unfold merkhetref19_Fits.f fitsP
  refine Ev.bind (refRight19_ev l p g hl) ?_
  cases c : rightP l p with
  | false => exact Ev.congr (fun k => if_neg (by decide)) jt
  | true =>
    obtain ⟨hlen, hf, hq⟩ := rightP_iff c
    rw [Bool.true_and]
    refine Ev.congr (fun k => if_pos rfl) ?_
    by_cases c2 : s.length = l.length
    · rw [decide_eq_true c2, Bool.true_and]
      refine Ev.step (f := fun k => merkhetref19_Fits.l0 k (l.map mkS) p s 0) (fun k => by rw [show (((s.length : Int) != ((l.map mkS).length : Int)) = false) from by rw [List.length_map, c2]; exact bne_self_eq_false _, merkhetref19_Fits.j0, if_neg (by decide)]) ?_
      exact refFits_l0 l (by omega) (fun hin => refFits_l1 l hq hf.1 (by omega) hlen (by omega) hin p.length 0 (by omega)) s.length 0 (by omega) (fun j hj => absurd hj (by omega))
    · rw [decide_eq_false c2, Bool.false_and]
      exact Ev.congr (fun k => by rw [show (((s.length : Int) != ((l.map mkS).length : Int)) = true) from bne_iff_ne.2 (by rw [List.length_map]; omega)]) jt
/-- The starts fit. -/
theorem starts_fit {l : List PS} {p : List Int} (c : rightP l p = true) (hl : l.length ≤ 60) : fitsP l p (startsP l p) = true := by
  obtain ⟨hlen, hf, hq⟩ := rightP_iff c
  have hrd : ∀ a : Int, 0 ≤ a → a < (p.length : Int) → rd (startsP l p) a = V l p a := fun a h0 h1 => by
    have := startsP_at l p a.toNat (by omega)
    rw [show ((a.toNat : Nat) : Int) = a by omega] at this
    exact this
  unfold fitsP
  rw [c, Bool.true_and, decide_eq_true (show (startsP l p).length = l.length by rw [startsP_length]; omega), Bool.true_and, Bool.and_eq_true]
  refine ⟨List.all_eq_true.2 fun x hx => ?_, allF_true _ _ fun i hi => ?_⟩
  · unfold startsP at hx
    obtain ⟨i, hi, rfl⟩ := List.mem_map.1 hx
    have := V_bd hq (p := p) (by omega) (i : Int)
    unfold inB
    rw [decide_eq_false (by omega), decide_eq_false (by omega)]
    rfl
  · have hV := V_eq l hf (a := (i : Int)) (by omega) (by omega)
    have hnx : nx p (i : Int) = rd p (i : Int) := by unfold nx; rw [if_pos (by omega)]; rfl
    have ok := okP_rd hf.1 i (by omega)
    rw [hnx] at hV
    unfold fitB
    rw [hrd (i : Int) (by omega) (by omega)]
    by_cases c1 : rd p (i : Int) < 0
    · rw [if_pos c1] at hV ⊢
      exact decide_eq_true hV
    · rw [if_neg c1] at hV ⊢
      rw [hrd (rd p (i : Int)) (by omega) ok.2]
      generalize V l p (i : Int) = u at hV ⊢
      generalize V l p (rd p (i : Int)) = v at hV ⊢
      unfold stepV at hV
      by_cases c2 : (atP l (i : Int)).t > (atP l (rd p (i : Int))).t
      · rw [if_pos c2] at hV ⊢
        exact decide_eq_true hV
      · rw [if_neg c2] at hV ⊢
        have hu : v ≤ u ∧ u + (atP l (i : Int)).t ≤ v + (atP l (rd p (i : Int))).t := by
          split at hV
          · omega
          · split at hV <;> omega
        rw [if_neg (by omega), if_neg (by omega)]
end Go.Proofs.Ythlekphkibeflaa.D
