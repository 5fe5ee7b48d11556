/- With the parents that the document takes from the batch a start stands as near to what is wished as any that fits: for any batch, place and step (a batch that is too great or empty asks the example alone). -/
import Derived.Test.YthlekphkibeflaaEx9
import Derived.Test.YthlekphkibeflaaEC19a
import Derived.Test.YthlekphkibeflaaEC19o
set_option linter.unusedVariables false
namespace Go.Proofs.Ythlekphkibeflaa.Pure
open Go.RowKit Go.Proofs.Ythlekphkibeflaa.E Go.Proofs.YthlekphkibeflaaW.PrintWords Go.Proofs.YthlekphkibeflaaW.PrintLast Go.Proofs.YthlekphkibeflaaW.PrintMore Go.Proofs.Ythlekphkibeflaa.H

theorem nearest_fix_ev : Ev (fun k => merkhetlaw19_ClampNearest_fix k) true := by
  unfold merkhetlaw19_ClampNearest_fix
  exact Ev.bind law19_fixed_ev (Ev.congr (f := fun _ => some true) (fun k => by rw [if_pos rfl]) (Ev.now _))
theorem near_ev {x y : PS} (hx : okS x) (hy : okS y) {u v b : Int} (v0 : 0 ≤ v) (v1 : v ≤ 67553994410557440) (b0 : -4294967296 ≤ b) (b1 : b ≤ 4294967296) (hc : ¬ x.t > y.t) (hu : u = stepV x y v) : Ev (fun k => merkhetlaw19_ClampNearest_near k (mkS x) (mkS y) u v (wrap64 (u + wrap64 b))) true := by
  have hbd := stepV_bd hx hy v
  unfold okS at hx hy
  have w : ∀ x : Int, -9223372036854775808 ≤ x → x < 9223372036854775808 → wrap64 x = x := fun x h0 h1 => by unfold wrap64; omega
  rw [← hu] at hbd
  have eb : wrap64 b = b := w b (by omega) (by omega)
  have eo : wrap64 (u + b) = u + b := w _ (by omega) (by omega)
  rw [eb, eo]
  have ew : merkhetlaw19_ClampNearest_wish (mkS x) (mkS y) v = x.s + v - y.s := by
    show wrap64 (wrap64 (x.s + v) - y.s) = _
    rw [w (x.s + v) (by omega) (by omega), w _ (by omega) (by omega)]
  have e1 : wrap64 (u + b + (mkS x).f7) = u + b + x.t := by show wrap64 (u + b + x.t) = _; exact w _ (by omega) (by omega)
  have e2 : wrap64 (v + (mkS y).f7) = v + y.t := by show wrap64 (v + y.t) = _; exact w _ (by omega) (by omega)
  unfold merkhetlaw19_ClampNearest_near
  rw [ew, e1, e2]
  by_cases h : v ≤ u + b ∧ u + b + x.t ≤ v + y.t
  · refine Ev.congr (fun k => if_pos h) (Ev.congr (fun k => if_pos ?_) nearest_fix_ev)
    unfold merkhetlaw19_ClampNearest_far
    rw [w (u - (x.s + v - y.s)) (by omega) (by omega), w (x.s + v - y.s - u) (by omega) (by omega), w (u + b - (x.s + v - y.s)) (by omega) (by omega), w (x.s + v - y.s - (u + b)) (by omega) (by omega)]
    unfold stepV at hu
    rw [if_neg hc] at hu
    by_cases hb : b = 0
    · right; omega
    · left
      unfold mx
      split at hu
      · split <;> split <;> omega
      · split at hu
        · split <;> split <;> omega
        · split <;> split <;> omega
  · exact Ev.congr (fun k => if_neg h) nearest_fix_ev
open Classical in
theorem ClampNearest : merkhetlaw19_ClampNearest.Pure := by
  intro l0 a1 a2 _ hw0 ha1 ha2
  obtain ⟨l, rfl, g⟩ := plain_spans l0 hw0
  apply Ev.rounds
  unfold merkhetlaw19_ClampNearest.f
  refine Ev.bind (great_ev l) ?_
  cases c1 : greatP l with
  | true => exact Ev.congr (fun k => if_pos rfl) nearest_fix_ev
  | false =>
    obtain ⟨s1, s2⟩ := great_small c1
    have gg : gl l := fun q hq => ⟨g q hq, s2 q hq⟩
    refine Ev.congr (fun k => if_neg (by decide)) ?_
    by_cases cz : ((l.map mkS).length : Int) = 0
    · exact Ev.congr (fun k => if_pos cz) nearest_fix_ev
    refine Ev.congr (fun k => if_neg cz) ?_
    rw [List.length_map] at cz
    have hOf := refOf_ev (l.map mkS) (by rw [List.length_map]; omega)
    have hpl : (cut (parS (l.map mkS))).length = l.length := by rw [cut_length, parS_length, List.length_map]
    have hf : forestQ (cut (parS (l.map mkS))) := ⟨cut_ok (parS_ok _), fun a ha => cut_acyclic (parS_ok _) a (by rw [cut_length] at ha; exact ha)⟩
    generalize cut (parS (l.map mkS)) = p at hOf hpl hf
    refine Ev.bind hOf (Ev.bind (clampStarts_ev l p gg s1) ?_)
    unfold startsR
    cases c2 : rightP l p with
    | false =>
      refine Ev.congr (fun k => by rw [if_neg Bool.false_ne_true, if_neg Bool.false_ne_true]) (Ev.bind (refMay18_ev l gg s1) ?_)
      have hm : l.all mayP = false := by
        cases hm : l.all mayP with
        | false => rfl
        | true =>
          have : rightP l p = true := by unfold rightP; exact decide_eq_true ⟨hpl.symm, hf, hm⟩
          rw [this] at c2; cases c2
      rw [hm]
      exact Ev.congr (fun k => if_pos rfl) nearest_fix_ev
    | true =>
      have hq := (rightP_iff c2).2.2
      have hsl := startsP_length l p
      simp [Lit.wf, IntKind.min, IntKind.max, IntKind.signed, IntKind.bits] at ha1 ha2
      have e1 : wrap64 a1 = a1 := by unfold wrap64; omega
      have i0 : 0 ≤ Int.tmod a1 (l.length : Int) := Int.tmod_nonneg _ (by omega)
      have i1 : Int.tmod a1 (l.length : Int) < (l.length : Int) := Int.tmod_lt_of_pos _ (by omega)
      refine Ev.congr (f := fun k => merkhetlaw19_ClampNearest_go k (l.map mkS) p (startsP l p) (Int.tmod a1 (l.length : Int)) a2) (fun k => by
        rw [if_pos rfl, if_pos rfl, e1, List.length_map, if_pos ⟨⟨hpl, by rw [hsl, hpl]⟩, i0, i1⟩]) ?_
      generalize Int.tmod a1 (l.length : Int) = i at i0 i1
      have hrd : ∀ a : Int, 0 ≤ a → a < (p.length : Int) → rd (startsP l p) a = V l p a := fun a h0 h1 => by
        have := startsP_at l p a.toNat (by omega)
        rw [show ((a.toNat : Nat) : Int) = a by omega] at this
        exact this
      have hV := V_eq l hf (a := i) i0 (by omega)
      have hnx : nx p i = rd p i := by unfold nx; rw [if_pos i0]; rfl
      have ok := okP_nx hf.1 (a := i) (by omega) (by omega)
      rw [hnx] at hV ok
      unfold merkhetlaw19_ClampNearest_go
      rw [hrd i i0 (by omega), rdS l i i0 i1]
      by_cases cq : rd p i < 0
      · rw [if_pos cq] at hV
        exact Ev.congr (fun k => (if_pos cq).trans (if_pos hV)) nearest_fix_ev
      · rw [if_neg cq] at hV
        have q0 : 0 ≤ rd p i := by omega
        rw [hrd (rd p i) q0 ok.2, rdS l (rd p i) q0 (by omega)]
        refine Ev.congr (fun k => (if_neg cq).trans (if_pos (by rw [List.length_map]; omega))) ?_
        have hb := V_bd hq (p := p) (by omega) (rd p i)
        have hx := okS_at hq i
        have hy := okS_at hq (rd p i)
        generalize atP l i = x at hV hx ⊢
        generalize atP l (rd p i) = y at hV hy ⊢
        by_cases c7 : x.t > y.t
        · refine Ev.congr (fun k => (if_pos (show (mkS x).f7 > (mkS y).f7 from c7)).trans (if_pos ?_)) nearest_fix_ev
          unfold stepV at hV
          rw [if_pos c7] at hV
          exact hV
        · exact Ev.congr (fun k => if_neg (show ¬ (mkS x).f7 > (mkS y).f7 from c7)) (near_ev hx hy hb.1 hb.2 (by omega) (by omega) c7 hV)
end Go.Proofs.Ythlekphkibeflaa.Pure
