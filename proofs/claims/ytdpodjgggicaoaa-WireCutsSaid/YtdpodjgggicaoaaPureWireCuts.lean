/- A batch's bytes cut anywhere, or with more behind them, are refused as the document says. -/
import Derived.Test.YtdpodjgggicaoaaCWC7
import Derived.Test.YtdpodjgggicaoaaCWC7f
import Derived.Test.YtdpodjgggicaoaaCWC7q
import Derived.Test.YtdpodjgggicaoaaCWC7g
import Derived.Test.YtdpodjgggicaoaaCWx6
set_option linter.unusedVariables false
namespace Go.Proofs.Ytdpodjgggicaoaa.Pure
open Go.RowKit Go.Proofs.Ytdpodjgggicaoaa.CW Go.Proofs.YtdpodjgggicaoaaW.PrintWords Go.Proofs.YtdpodjgggicaoaaW.PrintLast Go.Proofs.Ytdpodjgggicaoaa.H

theorem wireGet_more {l : List PS} (h : 1 ≤ l.length ∧ l.length ≤ 32 ∧ l.all mayP = true) (more : List Nat) (hm : 0 < more.length) : wireGet (spanHead ++ nb 2 l.length ++ l.flatMap bytesP ++ more) = .error 3 := by
  obtain ⟨p1, p2, p3, p4⟩ := put_parts h more
  have h1 := h.1
  have h2 := h.2.1
  unfold wireGet
  rw [p2, p4, if_neg (by omega), if_neg (by rw [p1]; simp), if_neg (by omega), if_neg (by omega), if_neg (by omega), if_pos (by omega)]
theorem wireGet_cut {l : List PS} (h : 1 ≤ l.length ∧ l.length ≤ 32 ∧ l.all mayP = true) (n : Nat) (hn : n < (spanHead ++ nb 2 l.length ++ l.flatMap bytesP).length) : wireGet ((spanHead ++ nb 2 l.length ++ l.flatMap bytesP).take n) = .error 2 := by
  obtain ⟨p1, p2, p3, p4⟩ := put_parts h []
  rw [List.append_nil] at p1 p2 p3 p4
  rw [List.length_nil] at p4
  have h1 := h.1
  have h2 := h.2.1
  generalize spanHead ++ nb 2 l.length ++ l.flatMap bytesP = b at *
  have hl : (b.take n).length = n := by rw [List.length_take]; omega
  unfold wireGet
  by_cases c : n < 6
  · rw [if_pos (by omega)]
  have e1 : (b.take n).take 4 = spanHead := by rw [List.take_take, Nat.min_eq_left (by omega), p1]
  have e2 : num (((b.take n).drop 4).take 2) = l.length := by rw [List.drop_take, List.take_take, Nat.min_eq_left (by omega), p2]
  rw [e2, hl, if_neg c, if_neg (by rw [e1]; simp), if_neg (by omega), if_neg (by omega), if_pos (by omega)]

theorem wireCuts_fix : Ev (fun k => merkhetlaw04_WireCuts_fix k) true := Ev.bind law04_fixed_ev (Ev.congr (fun k => if_pos rfl) (Ev.now _))

theorem WireCuts : merkhetlaw04_WireCuts.Pure := by
  intro l0 a1 l2 _ hw0 hw1 hl2 _ hw2
  obtain ⟨l, rfl, g⟩ := plain_spans l0 hw0
  obtain ⟨more, rfl, hmb⟩ := row_bytes l2 hw2
  have ha : 0 ≤ a1 ∧ a1 ≤ 65535 := by
    simp [Lit.wf, IntKind.min, IntKind.max, IntKind.signed, IntKind.bits] at hw1; omega
  obtain ⟨a, rfl⟩ := Int.eq_ofNat_of_zero_le ha.1
  apply Ev.rounds
  unfold merkhetlaw04_WireCuts.f
  refine Ev.bind (great_ev l) ?_
  cases c1 : greatP l with
  | true => exact Ev.congr (fun k => if_pos rfl) wireCuts_fix
  | false =>
    obtain ⟨s1, s2⟩ := great_small c1
    have gh : ∀ p ∈ l, p.h.length < 4611686018427387904 ∧ p.n.length < 4611686018427387904 := fun p hp => by have := s2 p hp; omega
    refine Ev.congr (fun k => if_neg (by decide)) ?_
    by_cases c2 : (rowB more).length > 100
    · exact Ev.congr (fun k => if_pos c2) wireCuts_fix
    refine Ev.congr (fun k => if_neg c2) ?_
    by_cases c3 : (rowB more).length = 0
    · exact Ev.congr (fun k => if_pos c3) wireCuts_fix
    refine Ev.congr (fun k => if_neg c3) (Ev.bind (wire_Put_ev l g gh) ?_)
    rw [rowB_length] at c2 c3
    have hlen := wirePut_length l
    by_cases h : (wirePut l).2 = 0
    · have hp : 1 ≤ l.length ∧ l.length ≤ 32 ∧ l.all mayP = true := by
        unfold wirePut at h
        split at h
        · assumption
        · exact absurd h (by simp)
      have hw : (wirePut l).1 = spanHead ++ nb 2 l.length ++ l.flatMap bytesP := by unfold wirePut; rw [if_pos hp]
      have hB := wirePut_isB g (l := l)
      have hpos : 0 < (wirePut l).1.length := by
        have := (put_parts hp []).2.2.2
        rw [List.append_nil, List.length_nil, ← hw] at this; omega
      have hn : a % (wirePut l).1.length < (wirePut l).1.length := Nat.mod_lt _ hpos
      have e1 : (rowB (wirePut l).1).take (Int.tmod (a : Int) ((rowB (wirePut l).1).length : Int)).toNat = rowB ((wirePut l).1.take (a % (wirePut l).1.length)) := by
        rw [rowB_length, show Int.tmod (a : Int) ((wirePut l).1.length : Int) = ((a % (wirePut l).1.length : Nat) : Int) from rfl, Int.toNat_natCast, rowB_take]
      have e2 : rowB (wirePut l).1 ++ rowB more = rowB ((wirePut l).1 ++ more) := (rowB_append _ _).symm
      have x := wire_Get_ev ((wirePut l).1.take (a % (wirePut l).1.length)) (isB_take hB _) (by rw [List.length_take]; omega)
      have y := wire_Get_ev ((wirePut l).1 ++ more) (isB_append hB hmb) (by rw [List.length_append]; omega)
      have gx : wireGet ((wirePut l).1.take (a % (wirePut l).1.length)) = .error 2 := by
        rw [hw] at hn ⊢; exact wireGet_cut hp _ hn
      have gy : wireGet ((wirePut l).1 ++ more) = .error 3 := by
        rw [hw]; exact wireGet_more hp _ (by omega)
      rw [gx, ← e1] at x
      rw [gy, ← e2] at y
      refine Ev.congr (f := fun k => merkhetlaw04_WireCuts_end k (a : Int) (rowB more) (rowB (wirePut l).1)) (fun k => (if_pos h).trans (if_pos ⟨⟨by rw [rowB_length]; exact hpos, by rw [rowB_length]; omega⟩, ha⟩)) ?_
      unfold merkhetlaw04_WireCuts_end
      exact Ev.bind x (Ev.bind y (Ev.congr (fun k => if_pos ⟨⟨rfl, rfl⟩, rfl, rfl⟩) wireCuts_fix))
    · have h1 : (wirePut l).2 = 1 := by
        unfold wirePut at h ⊢
        split
        · rename_i c; rw [if_pos c] at h; exact absurd rfl h
        · rfl
      exact Ev.congr (fun k => (if_neg h).trans (if_pos h1)) wireCuts_fix
end Go.Proofs.Ytdpodjgggicaoaa.Pure
