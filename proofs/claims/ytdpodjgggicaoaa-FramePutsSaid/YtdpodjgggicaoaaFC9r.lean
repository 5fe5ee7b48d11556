/- Layer 6's Put, the document's: it is the plain one of H9. -/
import Derived.Test.YtdpodjgggicaoaaFC9
import Derived.Test.YtdpodjgggicaoaaFC1
import Derived.Test.YtdpodjgggicaoaaFC4r
import Derived.Test.YtdpodjgggicaoaaFx2
set_option linter.unusedVariables false
set_option linter.unusedSimpArgs false
namespace Go.Proofs.Ytdpodjgggicaoaa.F
open Go.RowKit Go.Proofs.YtdpodjgggicaoaaW.PrintWords Go.Proofs.YtdpodjgggicaoaaW.PrintLast Go.Proofs.YtdpodjgggicaoaaW.PrintMore Go.Proofs.Ytdpodjgggicaoaa.H

theorem ref2_Put_evf (n : Nat) (size : Int) (hn : n < 18446744073709551616) : Ev (fun k => merkhetref02_Put.f k (n : Int) size) (txt (nb (cnt size) n)) := ⟨9, fun k hk => ref_Put_nat k hk n size hn⟩
theorem ref_Sum_ev (m : List Nat) (hm : isB m) (hn : m.length < 9223372036854775807) : Ev (fun k => merkhetref03_Sum.f k (txt m)) ((sumFrom 0 m : Nat) : Int) := by
  exact Ev.of (fun k => merkhetref03_Sum.mono _ k) (ref_Sum_nat m hm hn)
theorem ref_fPut_ev (b : List Nat) (hb : isB b) (hl : b.length < 1000000000) : Ev (fun k => merkhetref06_Put.f k (txt b)) (txt (framePut b).1, (framePut b).2) := by
  have jt : Ev (fun k => merkhetref06_Put.j0 k (txt b) true) ((⟨#[]⟩ : ByteArray), (1 : Int)) := Ev.step (f := fun _ => some (⟨#[]⟩, 1)) (fun k => by rw [merkhetref06_Put.j0, if_pos rfl]) (Ev.now _)
  unfold framePut
  by_cases c1 : (b.length : Int) = 0
  · rw [if_neg (by omega)]
    exact Ev.congr (f := fun k => merkhetref06_Put.j0 k (txt b) true) (fun k => by rw [merkhetref06_Put.f, txt_size, if_pos c1]) jt
  by_cases c2 : (b.length : Int) > 2406
  · rw [if_neg (by omega)]
    exact Ev.congr (f := fun k => merkhetref06_Put.j0 k (txt b) true) (fun k => by rw [merkhetref06_Put.f, txt_size, if_neg c1, decide_eq_true c2]) jt
  rw [if_pos ⟨by omega, by omega⟩]
  refine Ev.congr (f := fun k => merkhetref06_Put.j0 k (txt b) false) (fun k => by rw [merkhetref06_Put.f, txt_size, if_neg c1, decide_eq_false c2]) ?_
  have e : IntKind.u64.wrap ((txt b).size : Int) = ((b.length : Nat) : Int) := by rw [wu64, txt_size]; omega
  have hlt := fsum_lt b hb
  have es : IntKind.u64.wrap ((fsum b : Nat) : Int) = ((fsum b : Nat) : Int) := by rw [wu64]; omega
  have h2 := ref2_Put_evf b.length 2 (by omega)
  have h4 := ref2_Put_evf (fsum b) 4 (by omega)
  rw [show cnt 2 = 2 from rfl] at h2
  rw [show cnt 4 = 4 from rfl] at h4
  have hs := ref_Sum_ev (nb 2 b.length ++ b) (isB_append (nb_isB _ _) hb) (by rw [List.length_append, nb_length]; omega)
  refine Ev.step (f := fun k => (merkhetref02_Put.f k ((b.length : Nat) : Int) 2).bind fun t132 => (if t132.size + (txt b).size ≤ 9223372036854775807 then ((merkhetref03_Sum.f k (t132 ++ txt b)).bind fun t133 => ((merkhetref02_Put.f k (IntKind.u64.wrap (t133)) 4).bind fun t134 => (if t132.size + t134.size ≤ 9223372036854775807 then (if (t132 ++ t134).size + (txt b).size ≤ 9223372036854775807 then (some ((t132 ++ t134) ++ txt b, 0)) else (none)) else (none)))) else (none))) (fun k => by rw [merkhetref06_Put.j0, if_neg (by decide), e]) ?_
  refine Ev.bind h2 (Ev.congr (fun k => if_pos (by rw [txt_size, txt_size, nb_length]; omega)) ?_)
  rw [txt_append]
  refine Ev.bind hs ?_
  rw [show ((sumFrom 0 (nb 2 b.length ++ b) : Nat) : Int) = ((fsum b : Nat) : Int) from rfl, es]
  refine Ev.bind h4 (Ev.congr (fun k => if_pos (by rw [txt_size, txt_size, nb_length, nb_length]; decide)) (Ev.congr (fun k => if_pos (by rw [txt_append, txt_size, txt_size, List.length_append, nb_length, nb_length]; omega)) (ev_eqf (Ev.now _) ?_)))
  rw [txt_append, txt_append]
end Go.Proofs.Ytdpodjgggicaoaa.F
