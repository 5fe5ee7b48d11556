/- The starts of layer 19, the program's and the document's. -/
import Derived.Test.YthlekphkibeflaaEx3
import Derived.Test.YthlekphkibeflaaEx6
import Derived.Test.YthlekphkibeflaaEx4
import Derived.Test.YthlekphkibeflaaEC19m
import Derived.Test.YthlekphkibeflaaH23
set_option linter.unusedVariables false
namespace Go.Proofs.Ythlekphkibeflaa.E
open Go.RowKit Go.Proofs.Ythlekphkibeflaa.H Go.Proofs.YthlekphkibeflaaW.PrintWords Go.Proofs.YthlekphkibeflaaW.PrintLast Go.Proofs.YthlekphkibeflaaW.PrintMore
theorem law19_fixed_ev : Ev (fun k => merkhetlaw19_fixed.f k) true := Ev.of (fun k => merkhetlaw19_fixed.mono k) (k := 12) (by decide +kernel)
theorem mayP_okS {q : PS} (h : mayP q = true) : okS q := by
  unfold mayP mayB at h
  simp only [Bool.and_eq_true, decide_eq_true_eq] at h
  exact ⟨h.1.1.1.1.1.2, h.1.1.1.1.2, h.1.1.1.2, h.1.1.2⟩
/-- Names no longer than a hundred, values such as their types hold. -/
def gl (l : List PS) : Prop := ∀ q ∈ l, q.good ∧ q.h.length ≤ 100 ∧ q.n.length ≤ 100
open Classical in
noncomputable def rightP (l : List PS) (p : List Int) : Bool := decide (l.length = p.length ∧ forestQ p ∧ l.all mayP = true)
theorem anyS_ev : ∀ (l : List PS), gl l → ∃ K, ∀ k, K ≤ k → ((l.map mkS).all fun x => (api_Span_29_h k x).isSome) = true ∧ ((l.map mkS).any fun x => !((api_Span_29_h k x).getD false)) = !(l.all mayP)
  | [], _ => ⟨0, fun k _ => ⟨rfl, rfl⟩⟩
  | q :: l, h => by
    obtain ⟨K, hK⟩ := anyS_ev l (fun y hy => h y (List.mem_cons_of_mem _ hy))
    obtain ⟨g, g1, g2⟩ := h q (by simp)
    obtain ⟨L, hL⟩ := mayP_ev q g (by omega) (by omega)
    refine ⟨K + L, fun k hk => ?_⟩
    obtain ⟨h1, h2⟩ := hK k (by omega)
    have h3 : api_Span_29_h k (mkS q) = some (mayP q) := hL k (by omega)
    rw [List.map_cons, List.all_cons, List.any_cons, List.all_cons, h1, h2, h3, Bool.not_and]
    exact ⟨rfl, rfl⟩
open Classical in
theorem clampRight_ev (l : List PS) (p : List Int) (g : gl l) (hl : l.length ≤ 60) : Ev (fun k => clamp_right.f k (l.map mkS) p) (rightP l p) := by
  unfold clamp_right.f rightP
  by_cases c : l.length = p.length
  · refine Ev.congr (fun k => if_pos (by rw [List.length_map, c])) ?_
    refine Ev.bind (parentRight_ev p (by omega)) ?_
    by_cases h : forestQ p
    · refine Ev.congr (fun k => by rw [decide_eq_true (show okP p ∧ ∀ a, a < (p.length : Int) → ¬ cyc p a from h), if_pos rfl]) ?_
      have e : decide (l.length = p.length ∧ forestQ p ∧ l.all mayP = true) = l.all mayP := by
        cases hm : l.all mayP with
        | true => exact decide_eq_true ⟨c, h, rfl⟩
        | false => exact decide_eq_false (fun x => by simp at x)
      rw [e]
      have hev : Ev (fun k => api_Span_29.f k (l.map mkS) 30) (!(l.all mayP)) := by
        obtain ⟨K, hK⟩ := anyS_ev l g
        exact ⟨K, fun k hk => by
          obtain ⟨h1, h2⟩ := hK k hk
          show api_Span_29.f k (l.map mkS) 30 = _
          unfold api_Span_29.f
          rw [if_pos rfl, if_pos h1, h2]⟩
      refine Ev.bind hev ?_
      exact Ev.congr (f := fun _ => some (l.all mayP)) (fun k => by rw [Bool.not_not]) (Ev.now _)
    · refine Ev.congr (f := fun _ => some false) (fun k => by rw [decide_eq_false (show ¬ (okP p ∧ ∀ a, a < (p.length : Int) → ¬ cyc p a) from h), if_neg Bool.false_ne_true]) ?_
      rw [decide_eq_false (fun x => h x.2.1)]
      exact Ev.now _
  · refine Ev.congr (f := fun _ => some false) (fun k => if_neg (by rw [List.length_map]; omega)) ?_
    rw [decide_eq_false (fun x => c x.1)]
    exact Ev.now _
theorem refMay18_l0 (l : List PS) (g : gl l) (hl : l.length ≤ 60) : ∀ (d i : Nat), i + d = l.length → Ev (fun k => merkhetref18_May.l0 k (l.map mkS) (i : Int)) ((l.drop i).all mayP) := by
  intro d
  induction d with
  | zero =>
    intro i hi
    rw [List.drop_of_length_le (by omega)]
    exact Ev.step (f := fun _ => some true) (fun k => by rw [merkhetref18_May.l0, if_neg (by rw [List.length_map]; omega)]) (Ev.now _)
  | succ d ih =>
    intro i hi
    have hil : i < l.length := by omega
    obtain ⟨gq, g1, g2⟩ := g l[i] (List.getElem_mem hil)
    have e : wrap64 ((i : Int) + 1) = ((i + 1 : Nat) : Int) := w64_ _ (by omega) (by omega)
    rw [List.drop_eq_getElem_cons hil, List.all_cons]
    refine Ev.step (f := fun k => (merkhetref01_May.f k (mkS l[i]).f0 (mkS l[i]).f1 (mkS l[i]).f2 (mkS l[i]).f3 (mkS l[i]).f4 (mkS l[i]).f5 (mkS l[i]).f6 (mkS l[i]).f7).bind fun t118 => (if t118 = true then (merkhetref18_May.l0 k (l.map mkS) ((i + 1 : Nat) : Int)) else (some false))) (fun k => by rw [merkhetref18_May.l0, if_pos (by rw [List.length_map]; omega), if_pos (by omega), rd_mkS l i hil, e]) ?_
    refine Ev.bind (ref_May_ev _ _ _ _ _ _ _ _ (Int.natCast_nonneg l[i].d) gq.h (by omega) gq.n (by omega)) ?_
    show Ev (fun k => if mayP l[i] = true then _ else _) (mayP l[i] && _)
    cases mayP l[i] with
    | true => rw [Bool.true_and]; exact Ev.congr (fun k => if_pos rfl) (ih (i + 1) (by omega))
    | false => exact Ev.congr (fun k => if_neg (by decide)) (Ev.now _)
theorem refMay18_ev (l : List PS) (g : gl l) (hl : l.length ≤ 60) : Ev (fun k => merkhetref18_May.f k (l.map mkS)) (l.all mayP) := by
  have := refMay18_l0 l g hl l.length 0 (by omega)
  rw [List.drop_zero] at this
  exact Ev.congr (fun k => by unfold merkhetref18_May.f; rfl) this
open Classical in
theorem refRight19_ev (l : List PS) (p : List Int) (g : gl l) (hl : l.length ≤ 60) : Ev (fun k => merkhetref19_Right.f k (l.map mkS) p) (rightP l p) := by
  unfold merkhetref19_Right.f rightP
  by_cases c : l.length = p.length
  · refine Ev.congr (fun k => if_pos (by rw [List.length_map, c])) ?_
    refine Ev.bind (refRight_ev p (by omega)) ?_
    by_cases h : forestQ p
    · refine Ev.congr (fun k => by rw [decide_eq_true (show okP p ∧ ∀ a, a < (p.length : Int) → ¬ cyc p a from h), if_pos rfl]) ?_
      have e : decide (l.length = p.length ∧ forestQ p ∧ l.all mayP = true) = l.all mayP := by
        cases hm : l.all mayP with
        | true => exact decide_eq_true ⟨c, h, rfl⟩
        | false => exact decide_eq_false (fun x => by simp at x)
      rw [e]
      exact Ev.bind (refMay18_ev l g hl) (Ev.now _)
    · refine Ev.congr (f := fun _ => some false) (fun k => by rw [decide_eq_false (show ¬ (okP p ∧ ∀ a, a < (p.length : Int) → ¬ cyc p a) from h), if_neg Bool.false_ne_true]) ?_
      rw [decide_eq_false (fun x => h x.2.1)]
      exact Ev.now _
  · refine Ev.congr (f := fun _ => some false) (fun k => if_neg (by rw [List.length_map]; omega)) ?_
    rw [decide_eq_false (fun x => c x.1)]
    exact Ev.now _
/-- One step, the program's. -/
theorem clampStart_ev {a q : PS} (ha : okS a) (hq : okS q) (t : Int) (t0 : 0 ≤ t) (t1 : t ≤ 67553994410557440) : clamp_start.f (mkS a).f0 (mkS a).f1 (mkS a).f2 (mkS a).f3 (mkS a).f4 (mkS a).f5 (mkS a).f6 (mkS a).f7 (mkS q).f0 (mkS q).f1 (mkS q).f2 (mkS q).f3 (mkS q).f4 (mkS q).f5 (mkS q).f6 (mkS q).f7 t = some (stepV a q t) := by
  unfold okS at ha hq
  have w : ∀ x : Int, -9223372036854775808 ≤ x → x < 9223372036854775808 → wrap64 x = x := fun x h0 h1 => by unfold wrap64; omega
  show (if a.t > q.t then some t else ((clamp_between_int64.f (wrap64 ((wrap64 (a.s + t)) - q.s)) t (wrap64 ((wrap64 (t + q.t)) - a.t))).bind fun t111 => (some t111))) = _
  unfold stepV
  by_cases c : a.t > q.t
  · rw [if_pos c, if_pos c]
  · rw [if_neg c, if_neg c, w (a.s + t) (by omega) (by omega), w _ (by omega) (by omega), w (t + q.t) (by omega) (by omega), w _ (by omega) (by omega)]
    unfold clamp_between_int64.f mx mn
    rw [Option.bind_some]
    congr 1
    split <;> split <;> split <;> (try split) <;> omega
theorem rdS (l : List PS) (x : Int) (h0 : 0 ≤ x) (h1 : x < (l.length : Int)) : rd_T34 (l.map mkS) x = mkS (atP l x) := by
  have := rd_mkS l x.toNat (by omega)
  rw [show ((x.toNat : Nat) : Int) = x by omega] at this
  rw [this]
  unfold atP
  rw [List.getD_eq_getElem?_getD, List.getElem?_eq_getElem (show x.toNat < l.length by omega)]
  rfl
theorem go_ev (l : List PS) {p : List Int} (hq : ∀ q ∈ l, okS q) (h : forestQ p) (hl : p.length ≤ 60) (hlen : l.length = p.length) {k : Nat} {row : List It3} (hr : rowK p k (-1) 0 = some row) : ∀ (post pre : List It3) (out : List Int), row = pre ++ post → out.length = p.length → (∀ y ∈ pre, out.getD y.1.toNat 0 = V l p y.1) →
    ∃ r, clamp_Starts_go (l.map mkS) (post.map forest_Row_it) out = some r ∧ r.length = p.length ∧ ∀ y ∈ row, r.getD y.1.toNat 0 = V l p y.1 := by
  intro post
  induction post with
  | nil => intro pre out e ho hv; exact ⟨out, rfl, ho, fun y hy => hv y (by rw [e] at hy; simpa using hy)⟩
  | cons x post ih =>
    intro pre out e ho hv
    obtain ⟨⟨i, hi, hil⟩, hn, hpar, hne⟩ := row_at h hr e
    obtain ⟨x1, x2, x3⟩ := x
    simp only at hi hn hpar hne
    subst hi
    have hx0 : rd_T34 (l.map mkS) (i : Int) = mkS (atP l (i : Int)) := rdS l _ (by omega) (by omega)
    rw [List.map_cons]
    unfold clamp_Starts_go
    show ∃ r, (if (0 ≤ (i : Int) ∧ (i : Int) < ((l.map mkS).length : Int)) ∧ out.length = (l.map mkS).length then (if 0 ≤ x3 then (if x3 < ((l.map mkS).length : Int) then (clamp_Starts_st (rd_T34 (l.map mkS) (i : Int)) (rd_T34 (l.map mkS) x3) (rd (out.set (i : Int).toNat (rd_T34 (l.map mkS) (i : Int)).f6) x3)).bind fun v => clamp_Starts_go (l.map mkS) (post.map forest_Row_it) ((out.set (i : Int).toNat (rd_T34 (l.map mkS) (i : Int)).f6).set (i : Int).toNat v) else none) else clamp_Starts_go (l.map mkS) (post.map forest_Row_it) (out.set (i : Int).toNat (rd_T34 (l.map mkS) (i : Int)).f6)) else none) = some r ∧ _
    rw [if_pos ⟨⟨by omega, by rw [List.length_map]; omega⟩, by rw [List.length_map]; omega⟩, hx0, Int.toNat_natCast]
    have hV := V_eq l h (a := (i : Int)) (by omega) (by omega)
    rw [hn] at hV
    have hset : ∀ (v : Int), v = V l p (i : Int) → ∀ y ∈ pre ++ [((i : Int), x2, x3)], (out.set i v).getD y.1.toNat 0 = V l p y.1 := by
      intro v hv1 y hy
      rcases List.mem_append.1 hy with hy | hy
      · have hyi := hne y hy
        have hym : y ∈ row := by rw [e]; exact List.mem_append.2 (Or.inl hy)
        obtain ⟨⟨j, hj, hjl⟩, -⟩ := rowK_el k (-1) 0 row hr y hym
        rw [← hv y hy, hj, Int.toNat_natCast, List.getD_eq_getElem?_getD, List.getD_eq_getElem?_getD, List.getElem?_set_ne (by omega)]
      · obtain rfl : y = ((i : Int), x2, x3) := by simpa using hy
        show (out.set i v).getD (i : Int).toNat 0 = V l p (i : Int)
        rw [Int.toNat_natCast, List.getD_eq_getElem?_getD, List.getElem?_set_self (by omega), hv1]
        rfl
    have e' : row = (pre ++ [((i : Int), x2, x3)]) ++ post := by rw [e]; simp
    by_cases c : 0 ≤ x3
    · rcases hpar with hpar | ⟨y, hy, hy3⟩
      · omega
      have hym : y ∈ row := by rw [e]; exact List.mem_append.2 (Or.inl hy)
      obtain ⟨⟨j, hj, hjl⟩, -⟩ := rowK_el k (-1) 0 row hr y hym
      have hji := hne y hy
      have hvy := hv y hy
      rw [hj] at hy3 hji hvy
      subst hy3
      rw [Int.toNat_natCast] at hvy
      rw [if_pos c, if_pos (by rw [List.length_map]; omega), rdS l (j : Int) (by omega) (by omega)]
      have hrd : rd (out.set i (mkS (atP l (i : Int))).f6) (j : Int) = V l p (j : Int) := by
        rw [← hvy]
        unfold rd
        rw [Int.toNat_natCast, List.getD_eq_getElem?_getD, List.getD_eq_getElem?_getD, List.getElem?_set_ne (by omega)]
      have hb := V_bd hq hl (j : Int)
      have hst : clamp_Starts_st (mkS (atP l (i : Int))) (mkS (atP l (j : Int))) (V l p (j : Int)) = some (stepV (atP l (i : Int)) (atP l (j : Int)) (V l p (j : Int))) := clampStart_ev (okS_at hq _) (okS_at hq _) _ hb.1 hb.2
      rw [hrd, hst, Option.bind_some, List.set_set]
      rw [if_neg (by omega)] at hV
      exact ih (pre ++ [((i : Int), x2, (j : Int))]) _ e' (by rw [List.length_set]; exact ho) (hset _ hV.symm)
    · rw [if_neg c]
      rw [if_pos (by omega)] at hV
      exact ih (pre ++ [((i : Int), x2, x3)]) _ e' (by rw [List.length_set]; exact ho) (hset _ hV.symm)
open Classical in
noncomputable def startsR (l : List PS) (p : List Int) : List Int × Bool := if rightP l p = true then (startsP l p, true) else ([], false)
open Classical in
theorem rightP_iff {l : List PS} {p : List Int} (h : rightP l p = true) : l.length = p.length ∧ forestQ p ∧ ∀ q ∈ l, okS q := by
  unfold rightP at h
  obtain ⟨h1, h2, h3⟩ := of_decide_eq_true h
  exact ⟨h1, h2, fun q hq => mayP_okS (List.all_eq_true.1 h3 q hq)⟩
open Classical in
theorem clampStarts_ev (l : List PS) (p : List Int) (g : gl l) (hl : l.length ≤ 60) : Ev (fun k => clamp_Starts.f k (l.map mkS) p) (startsR l p) := by
  unfold clamp_Starts.f startsR
  refine Ev.bind (clampRight_ev l p g hl) ?_
  cases c : rightP l p with
  | false => rw [if_neg (by decide)]; exact Ev.congr (f := fun _ => some (([] : List Int), false)) (fun k => if_neg (by decide)) (Ev.now _)
  | true =>
    obtain ⟨hlen, hf, hq⟩ := rightP_iff c
    rw [if_pos rfl]
    refine Ev.congr (fun k => by rw [if_pos rfl, if_pos (by rw [List.length_map]; omega)]) ?_
    refine Ev.bind (forestRow_ev p (by omega)) ?_
    have hf' : forestP p := hf
    have hrow := rowOf_eq hf' (by omega)
    have hit : itemsP p = (rowOf p).map forest_Row_it := by unfold itemsP; exact if_pos hf'
    obtain ⟨r, h1, h2, h3⟩ := go_ev l hq hf (by omega) hlen hrow (rowOf p) [] (List.replicate p.length 0) rfl (by simp) (fun y hy => absurd hy (by simp))
    have hr : r = startsP l p := by
      apply List.ext_getElem (by rw [h2, startsP_length])
      intro i hi1 hi2
      rw [startsP_length] at hi2
      obtain ⟨x, hx, hx1⟩ := row_has hf.1 hf.2 hrow i hi2
      have h4 := h3 x hx
      rw [hx1, Int.toNat_natCast, List.getD_eq_getElem?_getD, List.getElem?_eq_getElem hi1] at h4
      have h5 := startsP_at l p i hi2
      rw [List.getD_eq_getElem?_getD, List.getElem?_eq_getElem (by rw [startsP_length]; exact hi2)] at h5
      exact h4.trans h5.symm
    refine Ev.congr (f := fun _ => some (startsP l p, true)) (fun k => ?_) (Ev.now _)
    have hil := itemsP_length p (by omega)
    rw [if_pos (by omega), hit, List.length_map, hlen, h1, hr, Option.bind_some]
theorem startsR_length (l : List PS) (p : List Int) (hl : l.length ≤ 60) : (startsR l p).1.length ≤ 60 := by
  unfold startsR
  cases c : rightP l p with
  | false => rw [if_neg (by decide)]; simp
  | true =>
    obtain ⟨hlen, -, -⟩ := rightP_iff c
    rw [if_pos rfl, startsP_length]; omega
theorem same15_refl (a : List Int) (hn : a.length ≤ 60) : Ev (fun k => merkhetref15_Same.f k a a) true := ev_eq (same15_ev a a (by omega)) (by simp)
end Go.Proofs.Ythlekphkibeflaa.E
