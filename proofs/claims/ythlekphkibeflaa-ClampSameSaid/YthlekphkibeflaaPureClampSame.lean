/- Starts that fit are left where they are, and starts that were told are told again the same: for any batch that may be (one that is too great or wrong asks the example alone). -/
import Derived.Test.YthlekphkibeflaaEx10
import Derived.Test.YthlekphkibeflaaEC19a
import Derived.Test.YthlekphkibeflaaEC19o
set_option linter.unusedVariables false
namespace Go.Proofs.Ythlekphkibeflaa.Pure
open Go.RowKit Go.Proofs.Ythlekphkibeflaa.E Go.Proofs.YthlekphkibeflaaW.PrintWords Go.Proofs.YthlekphkibeflaaW.PrintLast Go.Proofs.YthlekphkibeflaaW.PrintMore Go.Proofs.Ythlekphkibeflaa.H

theorem samefix_ev : Ev (fun k => merkhetlaw19_ClampSame_fix k) true := by
  unfold merkhetlaw19_ClampSame_fix
  exact Ev.bind law19_fixed_ev (Ev.congr (f := fun _ => some true) (fun k => by rw [if_pos rfl]) (Ev.now _))
theorem stepV_hi {a q : PS} (ha : okS a) (hq : okS q) (h : ¬ a.t > q.t) (t : Int) : stepV a q t + a.t ≤ t + q.t := by
  unfold okS at ha hq
  unfold stepV
  rw [if_neg h]
  split
  · omega
  · split <;> omega
def setS (q : PS) (v : Int) : PS := ⟨q.a, q.b, q.c, q.d, q.h, q.n, v, q.t⟩
def agP (l : List PS) (p : List Int) : List PS := (List.range l.length).map fun i : Nat => setS (atP l (i : Int)) (V l p (i : Int))
theorem agP_length (l : List PS) (p : List Int) : (agP l p).length = l.length := by simp [agP]
theorem agP_at (l : List PS) (p : List Int) (a : Int) (h0 : 0 ≤ a) (h1 : a < (l.length : Int)) : atP (agP l p) a = setS (atP l a) (V l p a) := by
  have h : a.toNat < l.length := by omega
  have e : ((a.toNat : Nat) : Int) = a := by omega
  have : atP (agP l p) a = setS (atP l ((a.toNat : Nat) : Int)) (V l p ((a.toNat : Nat) : Int)) := by
    show (agP l p).getD a.toNat zP = _
    simp [agP, List.getD_eq_getElem?_getD, h]
  rw [this, e]
theorem rd_startsP (l : List PS) (p : List Int) (a : Int) (h0 : 0 ≤ a) (h1 : a < (p.length : Int)) : rd (startsP l p) a = V l p a := by
  have := startsP_at l p a.toNat (by omega)
  rw [show ((a.toNat : Nat) : Int) = a by omega] at this
  exact this
theorem ag_eq (l : List PS) (p : List Int) (hl : l.length = p.length) : ∀ i, i ≤ l.length → merkhetlaw19_ClampSame_ag (l.map mkS) (startsP l p) i = ((agP l p).take i).map mkS
  | 0, _ => rfl
  | i + 1, h => by
    show merkhetlaw19_ClampSame_ag (l.map mkS) (startsP l p) i ++ [merkhetlaw19_ClampSame_sp (rd_T34 (l.map mkS) (i : Int)) (rd (startsP l p) (i : Int))] = _
    rw [ag_eq l p hl i (by omega), rdS l (i : Int) (by omega) (by omega), rd_startsP l p (i : Int) (by omega) (by omega), List.take_succ_eq_append_getElem (by rw [agP_length]; omega), List.map_append]
    have : (agP l p)[i]'(by rw [agP_length]; omega) = setS (atP l (i : Int)) (V l p (i : Int)) := by simp [agP]
    rw [this]
    rfl
theorem all_in {l : List S34} {p : List Int} : ∀ n, merkhetlaw19_ClampSame_all l p n = true → ∀ i, i < n → merkhetlaw19_ClampSame_in l p i = true
  | 0, _, i, hi => absurd hi (by omega)
  | n + 1, h, i, hi => by
    have h' : (merkhetlaw19_ClampSame_all l p n && merkhetlaw19_ClampSame_in l p n) = true := h
    rw [Bool.and_eq_true] at h'
    rcases Nat.lt_or_ge i n with h1 | h1
    · exact all_in n h'.1 i h1
    · obtain rfl : i = n := by omega
      exact h'.2
theorem all_stay {l : List PS} {p : List Int} (hq : ∀ q ∈ l, okS q) (hp : okP p) (hlen : l.length = p.length) (ha : ∀ i, i < p.length → merkhetlaw19_ClampSame_in (l.map mkS) p i = true) : ∀ (n : Nat) (a : Int), 0 ≤ a → a < (p.length : Int) → up p n a < 0 → val l p n a = (atP l a).s
  | 0, a, h0, _, h => absurd h (by show ¬ a < 0; omega)
  | n + 1, a, h0, h1, h => by
    have hnx : nx p a = rd p a := by unfold nx; rw [if_pos h0]; rfl
    have hok := okP_nx hp (a := a) (by omega) h1
    have hu : up p n (nx p a) < 0 := h
    unfold val
    rw [hnx] at hok hu ⊢
    by_cases c : rd p a < 0
    · rw [if_pos c]
    · rw [if_neg c, all_stay hq hp hlen ha n (rd p a) (by omega) hok.2 hu]
      have hi := ha a.toNat (by omega)
      have e : ((a.toNat : Nat) : Int) = a := by omega
      unfold merkhetlaw19_ClampSame_in at hi
      rw [e, if_pos (by omega), rdS l a h0 (by omega), rdS l (rd p a) (by omega) (by omega)] at hi
      have hx := okS_at hq a
      have hy := okS_at hq (rd p a)
      generalize atP l a = x at hi hx ⊢
      generalize atP l (rd p a) = y at hi hy ⊢
      unfold okS at hx hy
      have hi2 : (if x.s ≥ y.s then decide (wrap64 (x.s + x.t) ≤ wrap64 (y.s + y.t)) else false) = true := hi
      by_cases d1 : x.s ≥ y.s
      · rw [if_pos d1] at hi2
        have d2 := of_decide_eq_true hi2
        rw [w64_ (x.s + x.t) (by omega) (by omega), w64_ (y.s + y.t) (by omega) (by omega)] at d2
        unfold stepV
        rw [if_neg (by omega), if_neg (by omega), if_neg (by omega)]
        omega
      · rw [if_neg d1] at hi2
        cases hi2
theorem again_stay {l : List PS} {p : List Int} (hq : ∀ q ∈ l, okS q) (h : forestQ p) (hlen : l.length = p.length) : ∀ (n : Nat) (a : Int), 0 ≤ a → a < (p.length : Int) → up p n a < 0 → val (agP l p) p n a = V l p a
  | 0, a, h0, _, hu => absurd hu (by show ¬ a < 0; omega)
  | n + 1, a, h0, h1, hu => by
    have hok := okP_nx h.1 (a := a) (by omega) h1
    have hu' : up p n (nx p a) < 0 := hu
    have hV := V_eq l h h0 h1
    unfold val
    rw [agP_at l p a h0 (by omega)]
    by_cases c : nx p a < 0
    · rw [if_pos c]; rfl
    · rw [if_neg c] at hV ⊢
      rw [again_stay hq h hlen n (nx p a) (by omega) hok.2 hu', agP_at l p (nx p a) (by omega) (by omega)]
      have hx := okS_at hq a
      have hy := okS_at hq (nx p a)
      generalize atP l a = x at hV hx ⊢
      generalize atP l (nx p a) = y at hV hy ⊢
      have hb := stepV_bd hx hy (V l p (nx p a))
      have hh := stepV_hi hx hy
      generalize V l p (nx p a) = v at hV hb hh ⊢
      generalize V l p a = u at hV ⊢
      show (if x.t > y.t then v else if u + v - v < v then v else if u + v - v + x.t > v + y.t then v + y.t - x.t else u + v - v) = u
      by_cases c2 : x.t > y.t
      · rw [if_pos c2, hV]
        unfold stepV
        rw [if_pos c2]
      · have h3 := hh c2 v
        rw [← hV] at hb h3
        rw [if_neg c2, if_neg (by omega), if_neg (by omega)]
        omega
open Classical in
theorem ClampSame : merkhetlaw19_ClampSame.Pure := by
  intro l0 _ hw0
  obtain ⟨l, rfl, g⟩ := plain_spans l0 hw0
  apply Ev.rounds
  unfold merkhetlaw19_ClampSame.f
  refine Ev.bind (great_ev l) ?_
  cases c1 : greatP l with
  | true => exact Ev.congr (fun k => if_pos rfl) samefix_ev
  | false =>
    obtain ⟨s1, s2⟩ := great_small c1
    have gg : gl l := fun q hq => ⟨g q hq, s2 q hq⟩
    refine Ev.congr (fun k => if_neg (by decide)) (Ev.bind (refMay18_ev l gg s1) ?_)
    cases hm : l.all mayP with
    | false => exact Ev.congr (fun k => if_pos rfl) samefix_ev
    | true =>
      refine Ev.congr (fun k => if_neg (by decide)) ?_
      have hOf := refOf_ev (l.map mkS) (by rw [List.length_map]; omega)
      have hpl : (cut (parS (l.map mkS))).length = l.length := by rw [cut_length, parS_length, List.length_map]
      have hf : forestQ (cut (parS (l.map mkS))) := ⟨cut_ok (parS_ok _), fun a ha => cut_acyclic (parS_ok _) a (by rw [cut_length] at ha; exact ha)⟩
      generalize cut (parS (l.map mkS)) = p at hOf hpl hf
      have c2 : rightP l p = true := by unfold rightP; exact decide_eq_true ⟨hpl.symm, hf, hm⟩
      have hq := (rightP_iff c2).2.2
      have hS := clampStarts_ev l p gg s1
      unfold startsR at hS
      rw [if_pos c2] at hS
      refine Ev.bind hOf (Ev.bind hS ?_)
      have hsl := startsP_length l p
      have hcond : merkhetlaw19_ClampSame_c (l.map mkS) p (startsP l p) := by
        refine ⟨⟨⟨by rw [List.length_map]; omega, by rw [List.length_map]; omega⟩, by rw [List.length_map]; omega⟩, fun i hi => ?_⟩
        rw [List.length_map] at hi ⊢
        have hok := okP_nx hf.1 (a := (i : Int)) (by omega) (by omega)
        have hnx : nx p (i : Int) = rd p (i : Int) := by unfold nx; rw [if_pos (by omega)]; rfl
        rw [hnx] at hok
        refine ⟨by omega, fun ha => ?_⟩
        have hin := all_in _ ha
        rw [rd_startsP l p (i : Int) (by omega) (by omega), rdS l (i : Int) (by omega) (by omega)]
        exact all_stay hq hf.1 hpl.symm (fun i hi => hin i (by omega)) p.length (i : Int) (by omega) (by omega) (up_ends_lt hf.1 hf.2 (by omega))
      refine Ev.congr (fun k => if_pos ⟨rfl, hcond⟩) ?_
      have hag : merkhetlaw19_ClampSame_ag (l.map mkS) (startsP l p) (l.map mkS).length = (agP l p).map mkS := by
        rw [List.length_map, ag_eq l p hpl.symm l.length (Nat.le_refl _), List.take_of_length_le (by rw [agP_length]; exact Nat.le_refl _)]
      show Ev (fun k => (clamp_Starts.f k (merkhetlaw19_ClampSame_ag (l.map mkS) (startsP l p) (l.map mkS).length) p).bind fun z => (merkhetlaw19_ClampSame_fix k).bind fun _ => (merkhetref18_May.f k (merkhetlaw19_ClampSame_ag (l.map mkS) (startsP l p) (l.map mkS).length)).bind fun m2 => if m2 = false then some true else if z.2 = true then (merkhetref15_Same.f k z.1 (startsP l p)).bind fun b => if b = true then some true else none else none) true
      rw [hag]
      have ga : gl (agP l p) := fun q hqq => by
        unfold agP at hqq
        obtain ⟨i, hi, rfl⟩ := List.mem_map.1 hqq
        have hi' : i < l.length := List.mem_range.1 hi
        have hmem : atP l (i : Int) ∈ l := by
          unfold atP
          rw [Int.toNat_natCast, List.getD_eq_getElem?_getD, List.getElem?_eq_getElem hi']
          exact List.getElem_mem _
        have hV := V_bd hq (p := p) (by omega) (i : Int)
        obtain ⟨g1, g2, g3⟩ := gg _ hmem
        exact ⟨⟨g1.a, g1.b, g1.c, g1.d, g1.h, g1.hl, g1.n, g1.nl, by show _ ≤ V l p (i : Int); omega, by show V l p (i : Int) < _; omega, g1.t0, g1.t1⟩, g2, g3⟩
      refine Ev.bind (clampStarts_ev (agP l p) p ga (by rw [agP_length]; exact s1)) (Ev.bind samefix_ev (Ev.bind (refMay18_ev (agP l p) ga (by rw [agP_length]; exact s1)) ?_))
      cases hm2 : (agP l p).all mayP with
      | false => exact Ev.congr (f := fun _ => some true) (fun k => if_pos rfl) (Ev.now _)
      | true =>
        have c3 : rightP (agP l p) p = true := by unfold rightP; exact decide_eq_true ⟨by rw [agP_length]; exact hpl.symm, hf, hm2⟩
        have he : startsP (agP l p) p = startsP l p := by
          unfold startsP
          apply List.map_congr_left
          intro i hi
          have hi' := List.mem_range.1 hi
          exact again_stay hq hf hpl.symm p.length (i : Int) (by omega) (by omega) (up_ends_lt hf.1 hf.2 (by omega))
        unfold startsR
        rw [if_pos c3, he]
        refine Ev.congr (fun k => (if_neg (by decide)).trans (if_pos rfl)) (Ev.bind (same15_refl (startsP l p) (by omega)) ?_)
        exact Ev.congr (f := fun _ => some true) (fun k => if_pos rfl) (Ev.now _)
end Go.Proofs.Ythlekphkibeflaa.Pure
