/- Layer 2's texts, the document's. -/
import Derived.Test.YtdpodjgggicaoaaVC4r
import Derived.Test.YtdpodjgggicaoaaVC5b
import Derived.Test.YtdpodjgggicaoaaVx7
set_option linter.unusedVariables false
set_option linter.unusedSimpArgs false
namespace Go.Proofs.Ytdpodjgggicaoaa.V
open Go.RowKit Go.Proofs.YtdpodjgggicaoaaW.PrintWords Go.Proofs.YtdpodjgggicaoaaW.PrintLast Go.Proofs.YtdpodjgggicaoaaW.PrintMore Go.Proofs.Ytdpodjgggicaoaa.H

theorem zero_txt : (⟨#[0]⟩ : ByteArray) = txt [0] := rfl
theorem ref_PutText_loop : ∀ (d : Nat) (m : List Nat), m.length + d = 17 → merkhetref02_PutText.l0 (d + 1) (txt m) = some (txt (m ++ List.replicate d 0)) := by
  intro d
  induction d with
  | zero =>
    intro m h
    rw [merkhetref02_PutText.l0, txt_size, if_neg (by omega)]
    simp
  | succ d ih =>
    intro m h
    rw [merkhetref02_PutText.l0, txt_size, if_pos (by omega), if_pos (by omega), zero_txt, txt_append, ih (m ++ [0]) (by simp; omega)]
    simp [List.replicate_succ]
theorem ref_PutText_nat (K : Nat) (hK : 18 ≤ K) (s : List Nat) (hl : s.length ≤ 140737488351232) : merkhetref02_PutText.f K (txt s) = some (txt (field s)) := by
  refine at_rounds (merkhetref02_PutText.mono (txt s)) hK ?_
  unfold merkhetref02_PutText.f field
  rw [txt_size]
  by_cases h : s.length ≤ 16
  · have hw : IntKind.u64.wrap (s.length : Int) = (s.length : Int) := by rw [wu64]; omega
    have hc : cnt 1 = 1 := by decide
    rw [if_neg (by omega), if_pos h, hw, ref_Put_nat 18 (by omega) s.length 1 (by omega), hc]
    simp only [Option.bind_some]
    have hn : nb 1 s.length = [s.length] := by simp only [nb]; rw [show s.length % 256 = s.length by omega]
    rw [hn, txt_append, txt_size, if_pos (by simp; omega)]
    have := ref_PutText_loop (16 - s.length) ([s.length] ++ s) (by simp; omega)
    refine at_rounds (fun k => merkhetref02_PutText.mono_l k _) (show 16 - s.length + 1 ≤ 18 by omega) ?_
    rw [this]
    simp
  · rw [if_pos (by omega), if_neg h]; rfl
theorem ref_GetText_nat (K : Nat) (hK : 20 ≤ K) (b : List Nat) (at_ : Int) (hb : isB b) (hl : b.length < 4611686018427387904) : merkhetref02_GetText.f K (txt b) at_ = some (getTR b at_) := by
  refine at_rounds (merkhetref02_GetText.mono (txt b) at_) hK ?_
  unfold merkhetref02_GetText.f
  rw [txt_size]
  unfold getTR getT
  by_cases h : 0 ≤ at_ ∧ at_ + 17 ≤ (b.length : Int)
  · rw [if_neg (by omega), if_neg (by omega), w64 _ (by omega) (by omega), decide_eq_false (by omega), if_pos h]
    obtain ⟨p, rfl⟩ := Int.eq_ofNat_of_zero_le h.1
    have hp : p + 17 ≤ b.length := by omega
    have hy := getD_lt hb p
    have w1 : wrap64 ((p : Int) + 1) = ((p + 1 : Nat) : Int) := w64 _ (by omega) (by omega)
    have w2 : wrap64 ((p : Int) + 17) = ((p + 17 : Nat) : Int) := w64 _ (by omega) (by omega)
    have w3 : wrap64 ((b.getD p 0 : Nat) : Int) = ((b.getD p 0 : Nat) : Int) := w64 _ (by omega) (by omega)
    have w4 : wrap64 (((p + 1 : Nat) : Int) + ((b.getD p 0 : Nat) : Int)) = ((p + 1 + b.getD p 0 : Nat) : Int) := w64 _ (by omega) (by omega)
    obtain ⟨t1, t2⟩ := tail17 b p hp
    rw [merkhetref02_GetText.j0, if_neg (by decide), txt_size, if_pos (by omega), if_pos (by omega), bt_txt b hb p (by omega), w3, w1, w4, w2, Int.toNat_natCast]
    by_cases hy16 : b.getD p 0 ≤ 16
    · have e1 : (b.take (p + 1 + b.getD p 0)).drop (p + 1) = (((b.drop p).take 17).tail).take (b.getD p 0) := by
        rw [← t1, List.drop_take, List.drop_take, List.take_take]
        congr 1
        omega
      have e2 : (b.take (p + 17)).drop p = (b.drop p).take 17 := by rw [List.drop_take]; congr 1; omega
      rw [if_neg (by omega), if_pos (by omega), if_pos (by omega), if_pos (by omega), Int.toNat_natCast, Int.toNat_natCast, Int.toNat_natCast, txt_extract, txt_extract, e1, e2, ref_PutText_nat 19 (by omega) _ (by rw [List.length_take]; omega)]
      simp only [Option.bind_some]
      have hbt : isB (((b.drop p).take 17).tail.take (b.getD p 0)) := by
        apply isB_take
        intro x hx
        exact isB_take (isB_drop hb p) 17 x (List.mem_of_mem_tail hx)
      rw [if_pos (by omega), if_pos (by omega)]
      by_cases he : (b.drop p).take 17 = field ((((b.drop p).take 17).tail).take (b.getD p 0))
      · rw [if_pos ((txt_eq_iff (field_isB hbt) (isB_take (isB_drop hb p) 17)).2 he.symm), if_pos ⟨hy16, he⟩]
      · rw [if_neg (fun e => he ((txt_eq_iff (field_isB hbt) (isB_take (isB_drop hb p) 17)).1 e).symm), if_neg (fun hh => he hh.2)]
    · rw [if_pos (by omega), if_neg (fun hh => hy16 hh.1)]
  · rw [if_neg h]
    by_cases h1 : at_ < 0
    · rw [if_pos h1, merkhetref02_GetText.j0, if_pos rfl]
    · rw [if_neg h1]
      by_cases h2 : at_ > (b.length : Int)
      · rw [if_pos h2, merkhetref02_GetText.j0, if_pos rfl]
      · rw [if_neg h2, w64 _ (by omega) (by omega), decide_eq_true (by omega), merkhetref02_GetText.j0, if_pos rfl]
end Go.Proofs.Ytdpodjgggicaoaa.V
