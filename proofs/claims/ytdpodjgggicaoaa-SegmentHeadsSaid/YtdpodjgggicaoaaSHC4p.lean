/- Layer 2's functions, the document's, on bytes: they are the plain ones of H4. -/
import Derived.Test.YtdpodjgggicaoaaSHC4
import Derived.Test.YtdpodjgggicaoaaSHx1
set_option linter.unusedVariables false
set_option linter.unusedSimpArgs false
namespace Go.Proofs.Ytdpodjgggicaoaa.SH
open Go.RowKit Go.Proofs.YtdpodjgggicaoaaW.PrintWords Go.Proofs.YtdpodjgggicaoaaW.PrintLast Go.Proofs.YtdpodjgggicaoaaW.PrintMore Go.Proofs.Ytdpodjgggicaoaa.H

theorem ref_Count_nat (size : Int) : merkhetref02_Count.f size = some (cnt size : Int) := by
  unfold merkhetref02_Count.f cnt
  split
  · congr 1; omega
  · split
    · congr 1; omega
    · congr 1; omega
theorem ref_Put_loop (size : Int) : ∀ (d i n : Nat) (acc : List Nat), i + d = cnt size → isB acc → acc.length = i → n < 18446744073709551616 →
    merkhetref02_Put.l0 (d + 1) (n : Int) size (txt acc) (i : Int) = some (txt (acc ++ nb d n)) := by
  have hc := cnt_le size
  intro d
  induction d with
  | zero =>
    intro i n acc hi ha hl hn
    rw [merkhetref02_Put.l0, ref_Count_nat]
    simp only [Option.bind_some]
    rw [if_neg (by omega)]
    simp [nb]
  | succ d ih =>
    intro i n acc hi ha hl hn
    have h1 : Int.tmod (n : Int) 256 % 256 = ((n % 256 : Nat) : Int) := by rw [Int.tmod_eq_emod_of_nonneg (by omega)]; omega
    have h2 : IntKind.u64.wrap (Int.tdiv (n : Int) 256) = ((n / 256 : Nat) : Int) := by rw [wu64, Int.tdiv_eq_ediv_of_nonneg (by omega)]; omega
    have h3 : wrap64 ((i : Int) + 1) = ((i + 1 : Nat) : Int) := w64 _ (by omega) (by omega)
    rw [merkhetref02_Put.l0, ref_Count_nat]
    simp only [Option.bind_some]
    rw [if_pos (by omega), h1, h2, h3, show ([((n % 256 : Nat) : Int)] : List Int) = rowB [n % 256] from rfl, strOf_rowB, txt_size, txt_size, if_pos (by simp; omega), txt_append]
    rw [ih (i + 1) (n / 256) (acc ++ [n % 256]) (by omega) (isB_append ha (isB_cons (Nat.mod_lt _ (by decide)) isB_nil)) (by simp; omega) (by omega)]
    simp [nb]
theorem ref_Put_nat (K : Nat) (hK : 9 ≤ K) (n : Nat) (size : Int) (hn : n < 18446744073709551616) : merkhetref02_Put.f K (n : Int) size = some (txt (nb (cnt size) n)) := by
  have hc := cnt_le size
  refine at_rounds (merkhetref02_Put.mono (n : Int) size) (show cnt size + 1 ≤ K by omega) ?_
  have := ref_Put_loop size (cnt size) 0 n [] (by omega) isB_nil rfl hn
  rw [List.nil_append] at this
  exact this
end Go.Proofs.Ytdpodjgggicaoaa.SH
