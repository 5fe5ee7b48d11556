/- Unlike batches have unlike bytes, and two, one behind the other, as long as they may be one, have the bytes of both's spans: for any two batches (those that are too great ask the example alone). -/
import Derived.Test.YtdpodjgggicaoaaWC7s
import Derived.Test.YtdpodjgggicaoaaWC7f
import Derived.Test.YtdpodjgggicaoaaWx6
set_option linter.unusedVariables false
namespace Go.Proofs.Ytdpodjgggicaoaa.Pure
open Go.RowKit Go.Proofs.Ytdpodjgggicaoaa.W Go.Proofs.YtdpodjgggicaoaaW.PrintWords Go.Proofs.YtdpodjgggicaoaaW.PrintLast Go.Proofs.Ytdpodjgggicaoaa.H

theorem put_zero {l : List PS} (h : (wirePut l).2 = 0) : 1 ≤ l.length ∧ l.length ≤ 32 ∧ l.all mayP = true := by
  unfold wirePut at h
  split at h
  · assumption
  · exact absurd h (by simp)
theorem put_val {l : List PS} (h : 1 ≤ l.length ∧ l.length ≤ 32 ∧ l.all mayP = true) : wirePut l = (spanHead ++ nb 2 l.length ++ l.flatMap bytesP, 0) := by
  unfold wirePut; rw [if_pos h]
theorem head6 (n : Nat) : (spanHead ++ nb 2 n).length = 6 := by rw [List.length_append, nb_length]; rfl
theorem put_drop {l : List PS} (h : 1 ≤ l.length ∧ l.length ≤ 32 ∧ l.all mayP = true) : (wirePut l).1.drop 6 = l.flatMap bytesP ∧ (wirePut l).1.length = 6 + 75 * l.length := by
  rw [put_val h]
  refine ⟨List.drop_left' (head6 _), ?_⟩
  show (spanHead ++ nb 2 l.length ++ l.flatMap bytesP).length = _
  rw [List.length_append, head6, flat_length h.2.2]
theorem one_j2 (l m : List PS) (g : ∀ p ∈ l, p.good) (g' : ∀ p ∈ m, p.good) (gh : ∀ p ∈ l, p.h.length < 4611686018427387904 ∧ p.n.length < 4611686018427387904) (gh' : ∀ p ∈ m, p.h.length < 4611686018427387904 ∧ p.n.length < 4611686018427387904) (h : (wirePut l).2 = 0) (h' : (wirePut m).2 = 0) :
    Ev (fun k => merkhetlaw04_WireOne.j2 k (l.map mkS) (m.map mkS) (rowB (wirePut l).1) (rowB (wirePut m).1) false) true := by
  have p1 := put_zero h
  have p2 := put_zero h'
  obtain ⟨d1, n1⟩ := put_drop p1
  obtain ⟨d2, n2⟩ := put_drop p2
  have l1 := p1.1
  have l2 := p1.2.1
  have m1 := p2.1
  have m2 := p2.2.1
  have gg : ∀ p ∈ l ++ m, p.good := fun p hp => (List.mem_append.1 hp).elim (g p) (g' p)
  have gg' : ∀ p ∈ l ++ m, p.h.length < 4611686018427387904 ∧ p.n.length < 4611686018427387904 := fun p hp => (List.mem_append.1 hp).elim (gh p) (gh' p)
  have hw := wire_Put_ev (l ++ m) gg gg'
  have hall : (l ++ m).all mayP = true := by rw [List.all_append, p1.2.2, p2.2.2]; rfl
  have ew : wrap64 (((l.map mkS).length : Int) + ((m.map mkS).length : Int)) = ((l.length + m.length : Nat) : Int) := by rw [List.length_map, List.length_map, w64_ _ (by omega) (by omega)]; omega
  refine Ev.step (f := fun k => (wire_Put.f k ((l ++ m).map mkS)).bind fun bt192 => (if ((l.length + m.length : Nat) : Int) > 32 then ((merkhetlaw04_fixed.f k).bind fun t196 => (if t196 = true then (if bt192.2 = 1 then (some ((bt192.1.length : Int) == 0)) else (some false)) else (some false))) else ((merkhetlaw04_fixed.f k).bind fun t197 => (if t197 = true then (if bt192.2 = 0 then (if (bt192.1.length : Int) > 6 then (if 6 ≤ (bt192.1.length : Int) then (if 6 ≤ ((rowB (wirePut l).1).length : Int) then ((some ((rowB (wirePut l).1).drop 6 : List Int)).bind fun y202 => (if 6 ≤ ((rowB (wirePut m).1).length : Int) then ((some ((rowB (wirePut m).1).drop 6 : List Int)).bind fun y206 => (if (strOfNums y202).size + (strOfNums y206).size ≤ 9223372036854775807 then (some ((strOfNums (bt192.1.drop 6)).toList == ((strOfNums y202) ++ (strOfNums y206)).toList)) else (none))) else (none))) else (none)) else (none)) else (some false)) else (some false)) else (some false))))) (fun k => ?_) ?_
  · rw [merkhetlaw04_WireOne.j2, if_neg (by decide), Option.bind_some, if_pos (by rw [List.length_map, List.length_nil]; omega), Option.bind_some, List.nil_append, if_pos (by rw [List.length_map, List.length_map]; omega), ← List.map_append, ew]
  · refine Ev.bind hw ?_
    by_cases c : ((l.length + m.length : Nat) : Int) > 32
    · refine Ev.congr (fun k => if_pos c) ?_
      refine Ev.bind law04_fixed_ev ?_
      have e : wirePut (l ++ m) = ([], 1) := by
        unfold wirePut; rw [if_neg (by rw [List.length_append]; omega)]
      rw [e]
      exact Ev.now true
    · refine Ev.congr (fun k => if_neg c) ?_
      refine Ev.bind law04_fixed_ev ?_
      have pc : 1 ≤ (l ++ m).length ∧ (l ++ m).length ≤ 32 ∧ (l ++ m).all mayP = true := ⟨by rw [List.length_append]; omega, by rw [List.length_append]; omega, hall⟩
      obtain ⟨d3, n3⟩ := put_drop pc
      have e0 : (wirePut (l ++ m)).2 = 0 := by rw [put_val pc]
      refine Ev.congr (fun k => ?_) (Ev.now true)
      simp only []
      rw [if_pos trivial, if_pos e0, rowB_length, n3, List.length_append, if_pos (by omega), if_pos (by omega), rowB_length, n1, if_pos (by omega), Option.bind_some, rowB_length, n2, if_pos (by omega), Option.bind_some, rowB_drop, rowB_drop, rowB_drop, d1, d2, d3,
        strOf_rowB, strOf_rowB, strOf_rowB, txt_size, txt_size, flat_length p1.2.2, flat_length p2.2.2, if_pos (by omega), txt_append, List.flatMap_append]
      simp
theorem one_j1 (l m : List PS) (g : ∀ p ∈ l, p.good) (g' : ∀ p ∈ m, p.good) (gh : ∀ p ∈ l, p.h.length < 4611686018427387904 ∧ p.n.length < 4611686018427387904) (gh' : ∀ p ∈ m, p.h.length < 4611686018427387904 ∧ p.n.length < 4611686018427387904) (h : (wirePut l).2 = 0) (h' : (wirePut m).2 = 0) (hl : l.length ≤ 60) :
    Ev (fun k => merkhetlaw04_WireOne.j1 k (l.map mkS) (m.map mkS) (rowB (wirePut l).1) (rowB (wirePut m).1) false) true := by
  have p1 := put_zero h
  have p2 := put_zero h'
  obtain ⟨d1, n1⟩ := put_drop p1
  obtain ⟨d2, n2⟩ := put_drop p2
  have hs := same_ev l m (fun p hp => ⟨(g p hp).h, (g p hp).n⟩) (fun p hp => ⟨(g' p hp).h, (g' p hp).n⟩) (by omega)
  refine Ev.step (f := fun k => (merkhetref01_Same.f k (l.map mkS) (m.map mkS)).bind fun t182 => (if (((strOfNums (rowB (wirePut l).1)).toList == (strOfNums (rowB (wirePut m).1)).toList) != t182) = true then (merkhetlaw04_WireOne.j2 k (l.map mkS) (m.map mkS) (rowB (wirePut l).1) (rowB (wirePut m).1) true) else (if ((rowB (wirePut l).1).length : Int) < 6 then (merkhetlaw04_WireOne.j2 k (l.map mkS) (m.map mkS) (rowB (wirePut l).1) (rowB (wirePut m).1) true) else (merkhetlaw04_WireOne.j2 k (l.map mkS) (m.map mkS) (rowB (wirePut l).1) (rowB (wirePut m).1) (decide (((rowB (wirePut m).1).length : Int) < 6)))))) (fun k => by rw [merkhetlaw04_WireOne.j1, if_neg (by decide)]) ?_
  refine Ev.bind hs ?_
  have e1 : ((strOfNums (rowB (wirePut l).1)).toList == (strOfNums (rowB (wirePut m).1)).toList) = decide (l = m) := by
    rw [strOf_rowB, strOf_rowB, txt_beq (wirePut_isB g) (wirePut_isB g'), decide_eq_decide]
    exact ⟨fun e => wirePut_inj g g' h h' e, fun e => by rw [e]⟩
  refine Ev.congr (fun k => by rw [e1, bne_self_eq_false, if_neg (by decide), rowB_length, n1, if_neg (by omega), rowB_length, n2, decide_eq_false (by omega)]) (one_j2 l m g g' gh gh' h h')
theorem one_j0 (l m : List PS) (g : ∀ p ∈ l, p.good) (g' : ∀ p ∈ m, p.good) (gh : ∀ p ∈ l, p.h.length < 4611686018427387904 ∧ p.n.length < 4611686018427387904) (gh' : ∀ p ∈ m, p.h.length < 4611686018427387904 ∧ p.n.length < 4611686018427387904) (hl : l.length ≤ 60) :
    Ev (fun k => merkhetlaw04_WireOne.j0 k (l.map mkS) (m.map mkS) false) true := by
  have hx : Ev (fun k => merkhetlaw04_WireOne.j1 k (l.map mkS) (m.map mkS) (rowB (wirePut l).1) (rowB (wirePut m).1) true) true :=
    Ev.step (f := fun k => (merkhetlaw04_fixed.f k).bind fun t => some t) (fun k => by rw [merkhetlaw04_WireOne.j1, if_pos rfl]) (Ev.bind law04_fixed_ev (Ev.now _))
  refine Ev.step (f := fun k => (wire_Put.f k (l.map mkS)).bind fun bt173 => ((wire_Put.f k (m.map mkS)).bind fun bt177 => (if bt173.2 = 0 then (merkhetlaw04_WireOne.j1 k (l.map mkS) (m.map mkS) bt173.1 bt177.1 (bt177.2 != 0)) else (merkhetlaw04_WireOne.j1 k (l.map mkS) (m.map mkS) bt173.1 bt177.1 true)))) (fun k => by rw [merkhetlaw04_WireOne.j0, if_neg (by decide)]) ?_
  refine Ev.bind (wire_Put_ev l g gh) (Ev.bind (wire_Put_ev m g' gh') ?_)
  by_cases h : (wirePut l).2 = 0
  · refine Ev.congr (fun k => if_pos h) ?_
    by_cases h' : (wirePut m).2 = 0
    · exact Ev.congr (fun k => by rw [bne_eq_false_iff_eq.2 h']) (one_j1 l m g g' gh gh' h h' hl)
    · exact Ev.congr (fun k => by rw [bne_iff_ne.2 h']) hx
  · exact Ev.congr (fun k => if_neg h) hx
theorem WireOne : merkhetlaw04_WireOne.Pure := by
  intro l0 l1 _ hw0 _ hw1
  obtain ⟨l, rfl, g⟩ := plain_spans l0 hw0
  obtain ⟨m, rfl, g'⟩ := plain_spans l1 hw1
  apply Ev.rounds
  have hx : Ev (fun k => merkhetlaw04_WireOne.j0 k (l.map mkS) (m.map mkS) true) true :=
    Ev.step (f := fun k => (merkhetlaw04_fixed.f k).bind fun t => some t) (fun k => by rw [merkhetlaw04_WireOne.j0, if_pos rfl]) (Ev.bind law04_fixed_ev (Ev.now _))
  unfold merkhetlaw04_WireOne.f
  refine Ev.bind (great_ev l) ?_
  cases c1 : greatP l with
  | true => exact Ev.congr (fun k => if_pos rfl) hx
  | false =>
    refine Ev.congr (fun k => if_neg (by decide)) (Ev.bind (great_ev m) ?_)
    cases c2 : greatP m with
    | true => exact hx
    | false =>
      obtain ⟨s1, s2⟩ := great_small c1
      obtain ⟨s3, s4⟩ := great_small c2
      exact one_j0 l m g g' (fun p hp => by have := s2 p hp; omega) (fun p hp => by have := s4 p hp; omega) s1
end Go.Proofs.Ytdpodjgggicaoaa.Pure
