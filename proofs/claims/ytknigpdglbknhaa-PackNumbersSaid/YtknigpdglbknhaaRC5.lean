/- Layer 2's texts, the program's and the document's, on bytes. -/
import Derived.Test.YtknigpdglbknhaaRC4
import Derived.Test.YtknigpdglbknhaaRx1
import Derived.Test.YtknigpdglbknhaaRx3
set_option linter.unusedVariables false
set_option linter.unusedSimpArgs false
namespace Go.Proofs.Ytknigpdglbknhaa.R
open Go.RowKit Go.Proofs.YtknigpdglbknhaaW.PrintWords Go.Proofs.YtknigpdglbknhaaW.PrintLast Go.Proofs.YtknigpdglbknhaaW.PrintMore Go.Proofs.Ytknigpdglbknhaa.H

theorem clone_nat (b : List Nat) (hl : b.length < 70368744177664) : slices_Clone_byte_byte.f (rowB b) = some (rowB b) := by
  unfold slices_Clone_byte_byte.f; rw [rowB_length, if_pos (by omega)]
theorem pack_PutText_nat (b s : List Nat) (hs : isB s) (hl : b.length < 70368744177664) : pack_PutText.f (rowB b) (txt s) = some (rowB (b ++ field s)) := by
  unfold pack_PutText.f
  rw [clone_nat b hl]
  simp only [Option.bind_some]
  rw [txt_size]
  unfold field
  by_cases h : s.length ≤ 16
  · have hw : wrap64 (16 - (s.length : Int)) = ((16 - s.length : Nat) : Int) := by rw [w64 _ (by omega) (by omega)]; omega
    have e1 : rowB b ++ [((s.length : Int)) % 256] = rowB (b ++ [s.length]) := by
      rw [show ((s.length : Int)) % 256 = (s.length : Int) by omega, rowB_append]; rfl
    rw [if_neg (by omega), if_pos h, rowB_length, if_pos (by omega), e1, bytesOf_txt s hs, rowB_length, if_pos (by rw [List.length_append]; simp; omega), hw, if_pos (by omega), ← rowB_append, Int.toNat_natCast, rowB_length,
      if_pos (by rw [List.length_append, List.length_append]; simp; omega), show List.replicate (16 - s.length) (0 : Int) = rowB (List.replicate (16 - s.length) 0) from rowB_replicate _ 0, ← rowB_append]
    simp
  · rw [if_pos (by omega), if_neg h, List.append_nil]
theorem zero_txt : (⟨#[0]⟩ : ByteArray) = txt [0] := rfl
theorem ref_PutText_loop : ∀ (d : Nat) (m : List Nat), m.length + d = 17 → merkhetref02_PutText.l0 (d + 1) (txt m) = some (txt (m ++ List.replicate d 0)) := by
  intro d
  induction d with
  | zero =>
    intro m h
    rw [merkhetref02_PutText.l0, txt_size, if_neg (by omega)]
    simp
  | succ d ih =>
    intro m h
    rw [merkhetref02_PutText.l0, txt_size, if_pos (by omega), if_pos (by omega), zero_txt, txt_append, ih (m ++ [0]) (by simp; omega)]
    simp [List.replicate_succ]
theorem ref_PutText_nat (K : Nat) (hK : 18 ≤ K) (s : List Nat) (hl : s.length ≤ 140737488351232) : merkhetref02_PutText.f K (txt s) = some (txt (field s)) := by
  refine at_rounds (merkhetref02_PutText.mono (txt s)) hK ?_
  unfold merkhetref02_PutText.f field
  rw [txt_size]
  by_cases h : s.length ≤ 16
  · have hw : IntKind.u64.wrap (s.length : Int) = (s.length : Int) := by rw [wu64]; omega
    have hc : cnt 1 = 1 := by decide
    rw [if_neg (by omega), if_pos h, hw, ref_Put_nat 18 (by omega) s.length 1 (by omega), hc]
    simp only [Option.bind_some]
    have hn : nb 1 s.length = [s.length] := by simp only [nb]; rw [show s.length % 256 = s.length by omega]
    rw [hn, txt_append, txt_size, if_pos (by simp; omega)]
    have := ref_PutText_loop (16 - s.length) ([s.length] ++ s) (by simp; omega)
    refine at_rounds (fun k => merkhetref02_PutText.mono_l k _) (show 16 - s.length + 1 ≤ 18 by omega) ?_
    rw [this]
    simp
  · rw [if_pos (by omega), if_neg h]; rfl
theorem law02_fixed : merkhetlaw02_fixed.f = some true := by
  unfold merkhetlaw02_fixed.f
  have h1 := pack_Put_nat [] 513 2 (by decide)
  have h2 := pack_PutText_nat [] [97, 98] (fun x hx => by simp at hx; omega) (by decide)
  rw [show (rowB [] : List Int) = [] from rfl] at h1 h2
  rw [show ((513 : Nat) : Int) = 513 from rfl] at h1
  rw [h1]
  simp only [Option.bind_some]
  rw [strOf_rowB, txt_toList, if_pos (by decide), show (⟨#[97, 98]⟩ : ByteArray) = txt [97, 98] from rfl, h2]
  simp only [Option.bind_some]
  rw [strOf_rowB, txt_toList]
  decide
/-! reading -/
def getTR (b : List Nat) (at_ : Int) : ByteArray × Bool := match getT b at_ with
  | some s => (txt s, true)
  | none => (⟨#[]⟩, false)
theorem tail17 (b : List Nat) (p : Nat) (h : p + 17 ≤ b.length) : (b.take (p + 17)).drop (p + 1) = ((b.drop p).take 17).tail ∧ ((b.drop p).take 17) = b.getD p 0 :: ((b.drop p).take 17).tail := by
  have h1 : b.drop p = b.getD p 0 :: b.drop (p + 1) := by
    rw [List.drop_eq_getElem_cons (by omega), List.getD_eq_getElem?_getD, List.getElem?_eq_getElem (by omega)]; rfl
  rw [h1]
  constructor
  · rw [List.drop_take]; simp
  · simp
theorem any_zero (l : List Nat) : ((rowB l).any fun c => c != 0) = !(decide (l = List.replicate l.length 0)) := by
  induction l with
  | nil => rfl
  | cons x r ih =>
    simp only [rowB_cons, List.any_cons, ih, List.length_cons, List.replicate_succ, List.cons.injEq]
    by_cases hx : x = 0
    · subst hx; simp
    · have : ((x : Int) != 0) = true := by rw [bne_iff_ne]; omega
      rw [this]
      simp [hx]
theorem pack_GetText_nat (K : Nat) (hK : 1 ≤ K) (b : List Nat) (at_ : Int) (hb : isB b) (hl : b.length < 4611686018427387904) : pack_GetText.f K (rowB b) at_ = some (getTR b at_) := by
  refine at_rounds (pack_GetText.mono (rowB b) at_) hK ?_
  unfold pack_GetText.f
  have ht := pack_there_nat b at_ 17 hl
  rw [show ((17 : Nat) : Int) = 17 from rfl] at ht
  rw [ht]
  simp only [Option.bind_some]
  unfold getTR getT
  by_cases h : 0 ≤ at_ ∧ at_ + 17 ≤ (b.length : Int)
  · rw [decide_eq_true h, if_pos rfl, if_pos h.1, rowB_length, if_pos (by omega), if_pos h]
    obtain ⟨p, rfl⟩ := Int.eq_ofNat_of_zero_le h.1
    have hp : p + 17 ≤ b.length := by omega
    have hy := getD_lt hb p
    have w1 : wrap64 ((p : Int) + 1) = ((p + 1 : Nat) : Int) := w64 _ (by omega) (by omega)
    have w2 : wrap64 ((p : Int) + 17) = ((p + 17 : Nat) : Int) := w64 _ (by omega) (by omega)
    have w3 : wrap64 ((b.getD p 0 : Nat) : Int) = ((b.getD p 0 : Nat) : Int) := w64 _ (by omega) (by omega)
    obtain ⟨t1, t2⟩ := tail17 b p hp
    rw [rd_rowB b p (by omega), Int.toNat_natCast, pack_GetText.j0]
    generalize hT : ((b.drop p).take 17).tail = T at *
    generalize hY : b.getD p 0 = y at *
    have hTl : T.length = 16 := by rw [← hT, List.length_tail, List.length_take, List.length_drop]; omega
    by_cases hy16 : y ≤ 16
    · rw [show decide (((y : Nat) : Int) > 16) = false from decide_eq_false (by omega), if_neg (by decide), w1, w2, if_pos (by omega), if_pos (by omega), rowB_length, if_pos (by omega), if_pos (by omega), if_pos (by omega),
        rd_rowB b p (by omega), hY, w3, if_pos (by omega), Int.toNat_natCast, Int.toNat_natCast, Int.toNat_natCast, rowB_take, rowB_drop, t1, rowB_length, hTl, if_pos (by omega), rowB_drop, rowB_take, strOf_rowB]
      unfold slices_ContainsFunc_byte_byte.f
      rw [if_pos rfl]
      simp only [Option.bind_some]
      rw [any_zero, List.length_drop, hTl, t2]
      have hf : field (T.take y) = y :: T.take y ++ List.replicate (16 - y) 0 := by
        unfold field
        rw [List.length_take, hTl, Nat.min_eq_left hy16, if_pos hy16]
      by_cases hz : T.drop y = List.replicate (16 - y) 0
      · rw [decide_eq_true hz, if_neg (by decide), if_pos ⟨hy16, by
          rw [hf, ← hz, List.cons_append, List.take_append_drop]⟩]
      · rw [decide_eq_false hz, if_pos (by decide), if_neg]
        rintro ⟨_, e⟩
        rw [hf, List.cons_append] at e
        have e2 := (List.cons.inj e).2
        apply hz
        have e3 := congrArg (List.drop y) e2
        rw [List.drop_left' (by rw [List.length_take, hTl]; omega)] at e3
        exact e3
    · rw [show decide (((y : Nat) : Int) > 16) = true from decide_eq_true (by omega), if_pos rfl, if_neg (fun hh => hy16 hh.1)]
  · rw [decide_eq_false h, if_neg (by decide), if_neg h, pack_GetText.j0, if_pos rfl]
theorem ref_GetText_nat (K : Nat) (hK : 20 ≤ K) (b : List Nat) (at_ : Int) (hb : isB b) (hl : b.length < 4611686018427387904) : merkhetref02_GetText.f K (txt b) at_ = some (getTR b at_) := by
  refine at_rounds (merkhetref02_GetText.mono (txt b) at_) hK ?_
  unfold merkhetref02_GetText.f
  rw [txt_size]
  unfold getTR getT
  by_cases h : 0 ≤ at_ ∧ at_ + 17 ≤ (b.length : Int)
  · rw [if_neg (by omega), if_neg (by omega), w64 _ (by omega) (by omega), decide_eq_false (by omega), if_pos h]
    obtain ⟨p, rfl⟩ := Int.eq_ofNat_of_zero_le h.1
    have hp : p + 17 ≤ b.length := by omega
    have hy := getD_lt hb p
    have w1 : wrap64 ((p : Int) + 1) = ((p + 1 : Nat) : Int) := w64 _ (by omega) (by omega)
    have w2 : wrap64 ((p : Int) + 17) = ((p + 17 : Nat) : Int) := w64 _ (by omega) (by omega)
    have w3 : wrap64 ((b.getD p 0 : Nat) : Int) = ((b.getD p 0 : Nat) : Int) := w64 _ (by omega) (by omega)
    have w4 : wrap64 (((p + 1 : Nat) : Int) + ((b.getD p 0 : Nat) : Int)) = ((p + 1 + b.getD p 0 : Nat) : Int) := w64 _ (by omega) (by omega)
    obtain ⟨t1, t2⟩ := tail17 b p hp
    rw [merkhetref02_GetText.j0, if_neg (by decide), txt_size, if_pos (by omega), if_pos (by omega), bt_txt b hb p (by omega), w3, w1, w4, w2, Int.toNat_natCast]
    by_cases hy16 : b.getD p 0 ≤ 16
    · have e1 : (b.take (p + 1 + b.getD p 0)).drop (p + 1) = (((b.drop p).take 17).tail).take (b.getD p 0) := by
        rw [← t1, List.drop_take, List.drop_take, List.take_take]
        congr 1
        omega
      have e2 : (b.take (p + 17)).drop p = (b.drop p).take 17 := by rw [List.drop_take]; congr 1; omega
      rw [if_neg (by omega), if_pos (by omega), if_pos (by omega), if_pos (by omega), Int.toNat_natCast, Int.toNat_natCast, Int.toNat_natCast, txt_extract, txt_extract, e1, e2, ref_PutText_nat 19 (by omega) _ (by rw [List.length_take]; omega)]
      simp only [Option.bind_some]
      have hbt : isB (((b.drop p).take 17).tail.take (b.getD p 0)) := by
        apply isB_take
        intro x hx
        exact isB_take (isB_drop hb p) 17 x (List.mem_of_mem_tail hx)
      rw [if_pos (by omega), if_pos (by omega)]
      by_cases he : (b.drop p).take 17 = field ((((b.drop p).take 17).tail).take (b.getD p 0))
      · rw [if_pos ((txt_eq_iff (field_isB hbt) (isB_take (isB_drop hb p) 17)).2 he.symm), if_pos ⟨hy16, he⟩]
      · rw [if_neg (fun e => he ((txt_eq_iff (field_isB hbt) (isB_take (isB_drop hb p) 17)).1 e).symm), if_neg (fun hh => he hh.2)]
    · rw [if_pos (by omega), if_neg (fun hh => hy16 hh.1)]
  · rw [if_neg h]
    by_cases h1 : at_ < 0
    · rw [if_pos h1, merkhetref02_GetText.j0, if_pos rfl]
    · rw [if_neg h1]
      by_cases h2 : at_ > (b.length : Int)
      · rw [if_pos h2, merkhetref02_GetText.j0, if_pos rfl]
      · rw [if_neg h2, w64 _ (by omega) (by omega), decide_eq_true (by omega), merkhetref02_GetText.j0, if_pos rfl]
end Go.Proofs.Ytknigpdglbknhaa.R
