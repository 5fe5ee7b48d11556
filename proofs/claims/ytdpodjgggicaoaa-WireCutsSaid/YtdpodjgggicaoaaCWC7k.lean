/- A span of the print's and the plain one. -/
import Derived.Test.YtdpodjgggicaoaaH7
import Derived.Test.YtdpodjgggicaoaaCWC6
set_option linter.unusedVariables false
set_option linter.unusedSimpArgs false
namespace Go.Proofs.Ytdpodjgggicaoaa.CW
open Go.RowKit Go.Proofs.YtdpodjgggicaoaaW.PrintWords Go.Proofs.YtdpodjgggicaoaaW.PrintLast Go.Proofs.YtdpodjgggicaoaaW.PrintMore Go.Proofs.Ytdpodjgggicaoaa.H

/-- The print's span of a plain one. -/
def mkS (p : PS) : S77 := ⟨(p.a : Int), (p.b : Int), (p.c : Int), (p.d : Int), txt p.h, txt p.n, p.s, p.t⟩
theorem rd_mkS (l : List PS) (i : Nat) (hi : i < l.length) : rd_T77 (l.map mkS) (i : Int) = mkS l[i] := by
  show (l.map mkS).getD _ _ = _
  simp [List.getD_eq_getElem?_getD, List.getElem?_eq_getElem hi]
theorem mayP_ev (p : PS) (g : p.good) (hl : p.h.length < 4611686018427387904) (nl : p.n.length < 4611686018427387904) : Ev (fun k => span_May.f k (mkS p).f0 (mkS p).f1 (mkS p).f2 (mkS p).f3 (mkS p).f4 (mkS p).f5 (mkS p).f6 (mkS p).f7) (mayP p) :=
  span_May_ev _ _ _ _ _ _ _ _ g.h hl g.n nl
theorem plain_spans (l0 : List S77) (h : ∀ x0_ ∈ l0, ((Lit.int .u64 x0_.f0).wf = true ∧ (Lit.int .u64 x0_.f1).wf = true ∧ (Lit.int .u64 x0_.f2).wf = true ∧ (Lit.int .u8 x0_.f3).wf = true ∧ x0_.f4.size ≤ maxLen ∧ x0_.f5.size ≤ maxLen ∧ (Lit.int .i64 x0_.f6).wf = true ∧ (Lit.int .i64 x0_.f7).wf = true)) :
    ∃ l : List PS, l0 = l.map mkS ∧ ∀ p ∈ l, p.good := by
  induction l0 with
  | nil => exact ⟨[], rfl, fun p hp => absurd hp (by simp)⟩
  | cons x r ih =>
    obtain ⟨l, rfl, hg⟩ := ih (fun y hy => h y (by simp [hy]))
    obtain ⟨h0, h1, h2, h3, h4, h5, h6, h7⟩ := h x (by simp)
    obtain ⟨f0, f1, f2, f3, f4, f5, f6, f7⟩ := x
    obtain ⟨hh, rfl, hhb⟩ := txt_of f4
    obtain ⟨nn, rfl, nnb⟩ := txt_of f5
    simp [Lit.wf, IntKind.min, IntKind.max, IntKind.signed, IntKind.bits, txt_size, maxLen] at h0 h1 h2 h3 h4 h5 h6 h7
    obtain ⟨a, rfl⟩ := Int.eq_ofNat_of_zero_le h0.1
    obtain ⟨b, rfl⟩ := Int.eq_ofNat_of_zero_le h1.1
    obtain ⟨c, rfl⟩ := Int.eq_ofNat_of_zero_le h2.1
    obtain ⟨d, rfl⟩ := Int.eq_ofNat_of_zero_le h3.1
    refine ⟨⟨a, b, c, d, hh, nn, f6, f7⟩ :: l, rfl, fun p hp => ?_⟩
    rcases List.mem_cons.1 hp with rfl | hp
    · exact ⟨by show a < _; omega, by show b < _; omega, by show c < _; omega, by show d < _; omega, hhb, by show hh.length ≤ _; omega, nnb, by show nn.length ≤ _; omega, by show _ ≤ f6; omega, by show f6 < _; omega, by show _ ≤ f7; omega, by show f7 < _; omega⟩
    · exact hg p hp
end Go.Proofs.Ytdpodjgggicaoaa.CW
