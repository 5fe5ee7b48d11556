/- Are two batches the same: the plain answer. -/
import Derived.Test.YtdpodjgggicaoaaVC7
import Derived.Test.YtdpodjgggicaoaaVx5
set_option linter.unusedVariables false
set_option linter.unusedSimpArgs false
namespace Go.Proofs.Ytdpodjgggicaoaa.V
open Go.RowKit Go.Proofs.YtdpodjgggicaoaaW.PrintWords Go.Proofs.YtdpodjgggicaoaaW.PrintLast Go.Proofs.YtdpodjgggicaoaaW.PrintMore Go.Proofs.Ytdpodjgggicaoaa.H

theorem sameP (p q : PS) (hp : isB p.h) (hp' : isB p.n) (hq : isB q.h) (hq' : isB q.n) :
    (!((mkS p).f0 == (mkS q).f0) || (!((mkS p).f1 == (mkS q).f1) || (!((mkS p).f2 == (mkS q).f2) || (!((mkS p).f3 == (mkS q).f3) || (!((mkS p).f4.toList == (mkS q).f4.toList) || (!((mkS p).f5.toList == (mkS q).f5.toList) || (!((mkS p).f6 == (mkS q).f6) || (!((mkS p).f7 == (mkS q).f7))))))))) = !decide (p = q) := by
  have e1 : ((mkS p).f4.toList == (mkS q).f4.toList) = decide (p.h = q.h) := txt_beq hp hq
  have e2 : ((mkS p).f5.toList == (mkS q).f5.toList) = decide (p.n = q.n) := txt_beq hp' hq'
  have ei : ∀ x y : Nat, (((x : Nat) : Int) == ((y : Nat) : Int)) = decide (x = y) := fun x y => by
    by_cases h : x = y
    · rw [h]; simp
    · rw [decide_eq_false h, beq_eq_false_iff_ne]; omega
  have ej : ∀ x y : Int, (x == y) = decide (x = y) := fun x y => by by_cases h : x = y <;> simp [h]
  rw [e1, e2]
  show (!((p.a : Int) == (q.a : Int)) || (!((p.b : Int) == (q.b : Int)) || (!((p.c : Int) == (q.c : Int)) || (!((p.d : Int) == (q.d : Int)) || (!(decide (p.h = q.h)) || (!(decide (p.n = q.n)) || (!(p.s == q.s) || (!(p.t == q.t))))))))) = _
  rw [ei, ei, ei, ei, ej, ej]
  rw [Bool.eq_iff_iff]
  simp only [Bool.or_eq_true, Bool.not_eq_true', decide_eq_false_iff_not]
  constructor
  · rintro h rfl
    simp at h
  · intro h
    apply Classical.byContradiction
    intro h2
    apply h
    simp only [not_or, Classical.not_not] at h2
    obtain ⟨a, b, c, d, e, f, g, i⟩ := h2
    cases p; cases q
    simp_all
theorem same_l0 (l m : List PS) (hl : ∀ p ∈ l, isB p.h ∧ isB p.n) (hm : ∀ p ∈ m, isB p.h ∧ isB p.n) (hlm : l.length = m.length) (hs : l.length < 4611686018427387904) : ∀ (d i : Nat), i + d = l.length →
    Ev (fun k => merkhetref01_Same.l0 k (l.map mkS) (m.map mkS) (i : Int)) (decide (l.drop i = m.drop i)) := by
  intro d
  induction d with
  | zero =>
    intro i hi
    rw [List.drop_of_length_le (by omega), List.drop_of_length_le (by omega)]
    exact Ev.step (f := fun _ => some true) (fun k => by rw [merkhetref01_Same.l0, if_neg (by rw [List.length_map]; omega)]) (ev_eq (Ev.now _) (by simp))
  | succ d ih =>
    intro i hi
    have hil : i < l.length := by omega
    have him : i < m.length := by omega
    have e : wrap64 ((i : Int) + 1) = ((i + 1 : Nat) : Int) := w64_ _ (by omega) (by omega)
    have h1 := hl _ (List.getElem_mem hil)
    have h2 := hm _ (List.getElem_mem him)
    rw [List.drop_eq_getElem_cons hil, List.drop_eq_getElem_cons him]
    by_cases hq : l[i] = m[i]
    · refine Ev.step (f := fun k => merkhetref01_Same.l0 k (l.map mkS) (m.map mkS) ((i + 1 : Nat) : Int)) (fun k => ?_) (ev_eq (ih (i + 1) (by omega)) (by rw [hq, decide_eq_decide]; simp only [List.cons.injEq, true_and]))
      rw [merkhetref01_Same.l0, if_pos (by rw [List.length_map]; omega), if_pos (by omega), if_pos (by rw [List.length_map]; omega), rd_mkS l i hil, rd_mkS m i him, sameP _ _ h1.1 h1.2 h2.1 h2.2, decide_eq_true hq, if_neg (by decide), e]
    · refine Ev.step (f := fun k => some false) (fun k => ?_) (ev_eq (Ev.now _) (by rw [decide_eq_false]; exact fun h => hq (List.cons.inj h).1))
      rw [merkhetref01_Same.l0, if_pos (by rw [List.length_map]; omega), if_pos (by omega), if_pos (by rw [List.length_map]; omega), rd_mkS l i hil, rd_mkS m i him, sameP _ _ h1.1 h1.2 h2.1 h2.2, decide_eq_false hq, if_pos (by decide)]
theorem same_ev (l m : List PS) (hl : ∀ p ∈ l, isB p.h ∧ isB p.n) (hm : ∀ p ∈ m, isB p.h ∧ isB p.n) (hs : l.length < 4611686018427387904) : Ev (fun k => merkhetref01_Same.f k (l.map mkS) (m.map mkS)) (decide (l = m)) := by
  by_cases h : l.length = m.length
  · have := same_l0 l m hl hm h hs l.length 0 (by omega)
    rw [List.drop_zero, List.drop_zero] at this
    exact Ev.congr (f := fun k => merkhetref01_Same.l0 k (l.map mkS) (m.map mkS) ((0 : Nat) : Int)) (fun k => by rw [merkhetref01_Same.f, List.length_map, List.length_map, if_pos (by omega)]; rfl) this
  · exact ev_eq (Ev.congr (f := fun _ => some false) (fun k => by rw [merkhetref01_Same.f, List.length_map, List.length_map, if_neg (by omega)]) (Ev.now _)) (by rw [decide_eq_false]; rintro rfl; exact h rfl)
/-! the law's arguments as plain data -/
theorem plain_spans (l0 : List S77) (h : ∀ x0_ ∈ l0, ((Lit.int .u64 x0_.f0).wf = true ∧ (Lit.int .u64 x0_.f1).wf = true ∧ (Lit.int .u64 x0_.f2).wf = true ∧ (Lit.int .u8 x0_.f3).wf = true ∧ x0_.f4.size ≤ maxLen ∧ x0_.f5.size ≤ maxLen ∧ (Lit.int .i64 x0_.f6).wf = true ∧ (Lit.int .i64 x0_.f7).wf = true)) :
    ∃ l : List PS, l0 = l.map mkS ∧ ∀ p ∈ l, p.good := by
  induction l0 with
  | nil => exact ⟨[], rfl, fun p hp => absurd hp (by simp)⟩
  | cons x r ih =>
    obtain ⟨l, rfl, hg⟩ := ih (fun y hy => h y (by simp [hy]))
    obtain ⟨h0, h1, h2, h3, h4, h5, h6, h7⟩ := h x (by simp)
    obtain ⟨f0, f1, f2, f3, f4, f5, f6, f7⟩ := x
    obtain ⟨hh, rfl, hhb⟩ := txt_of f4
    obtain ⟨nn, rfl, nnb⟩ := txt_of f5
    simp [Lit.wf, IntKind.min, IntKind.max, IntKind.signed, IntKind.bits, txt_size, maxLen] at h0 h1 h2 h3 h4 h5 h6 h7
    obtain ⟨a, rfl⟩ := Int.eq_ofNat_of_zero_le h0.1
    obtain ⟨b, rfl⟩ := Int.eq_ofNat_of_zero_le h1.1
    obtain ⟨c, rfl⟩ := Int.eq_ofNat_of_zero_le h2.1
    obtain ⟨d, rfl⟩ := Int.eq_ofNat_of_zero_le h3.1
    refine ⟨⟨a, b, c, d, hh, nn, f6, f7⟩ :: l, rfl, fun p hp => ?_⟩
    rcases List.mem_cons.1 hp with rfl | hp
    · exact ⟨by show a < _; omega, by show b < _; omega, by show c < _; omega, by show d < _; omega, hhb, by show hh.length ≤ _; omega, nnb, by show nn.length ≤ _; omega, by show _ ≤ f6; omega, by show f6 < _; omega, by show _ ≤ f7; omega, by show f7 < _; omega⟩
    · exact hg p hp
end Go.Proofs.Ytdpodjgggicaoaa.V
