/- Layers 2 to 7: what SegmentTorn needs, in one text. -/
import Derived.Test.YtdpodjgggicaoaaH1r
import Derived.Test.YtdpodjgggicaoaaSOx4r
import Derived.Test.YtdpodjgggicaoaaSOx3r
import Derived.Test.YtdpodjgggicaoaaH4r
import Derived.Test.YtdpodjgggicaoaaSOx1r
import Derived.Laws.BitsAllLaws
import Derived.Test.YtdpodjgggicaoaaSOx2r
import Derived.Test.YtdpodjgggicaoaaH6r
import Derived.Test.YtdpodjgggicaoaaH7r
import Derived.Test.YtdpodjgggicaoaaSOx5r
import Derived.Test.YtdpodjgggicaoaaH9r
import Derived.Test.YtdpodjgggicaoaaSOx6r
import Derived.Test.YtdpodjgggicaoaaH27r
import Derived.Test.YtdpodjgggicaoaaH29r
set_option linter.unusedVariables false
set_option linter.unusedSimpArgs false
namespace Go.Proofs.Ytdpodjgggicaoaa.SO
section
open Go.RowKit Go.Proofs.YtdpodjgggicaoaaW.PrintWords Go.Proofs.YtdpodjgggicaoaaW.PrintLast Go.Proofs.Ytdpodjgggicaoaa.H
theorem steps_round (n : Nat) (hn : n < 4294967296) (k : Nat) (i : Int) (hi : 0 ≤ i) (h8 : i < 8) :
    check_steps.l0 (k + 1) (n : Int) i = check_steps.l0 k ((cs n : Nat) : Int) (i + 1) := by
  have hw : wrap64 (i + 1) = i + 1 := by unfold wrap64; omega
  have ha : Go.bits .and .u32 (n : Int) 1 = ((n % 2 : Nat) : Int) := by
    have := u32_and_nat n 1 hn (by decide)
    rw [Nat.and_one_is_mod] at this; exact this
  simp only [check_steps.l0]
  rw [if_pos h8, ha, hw]
  unfold cs
  by_cases h1 : n % 2 = 1
  · rw [if_neg (by omega), if_pos h1]
    congr 1
    have := u32_xor_nat (n / 2) poly (by omega) (by decide)
    exact this
  · rw [if_pos (by omega), if_neg h1]
    rfl
theorem stepTab_nat (n : Nat) (hn : n < 4294967296) : stepTab (n : Int) = ((csn 8 n : Nat) : Int) := by
  have h : check_steps.f 9 (n : Int) = some ((csn 8 n : Nat) : Int) := by
    unfold check_steps.f
    have e : ∀ d : Nat, ∀ (m : Nat), m < 4294967296 → d ≤ 8 → check_steps.l0 (d + 1) (m : Int) (8 - (d : Int)) = some ((csn d m : Nat) : Int) := by
      intro d
      induction d with
      | zero => intro m _ _; simp [check_steps.l0, csn]
      | succ d ih =>
        intro m hm hd
        rw [steps_round m hm (d + 1) _ (by omega) (by omega)]
        have := ih (cs m) (cs_lt hm) (by omega)
        rw [show (8 : Int) - ((d + 1 : Nat) : Int) + 1 = 8 - (d : Int) by omega, this]
        rfl
    have := e 8 n hn (by omega)
    simpa using this
  simp [stepTab, h]
theorem more_step (c x : Nat) (hc : c < 4294967296) (hx : x < 256) :
    Go.bits .xor .u32 ((c : Int) / 256) (stepTab (Go.bits .xor .u8 ((c : Int) % 256) (x : Int))) = ((csn 8 (c ^^^ x) : Nat) : Int) := by
  have h1 : Go.bits .xor .u8 ((c : Int) % 256) (x : Int) = ((c % 256 ^^^ x : Nat) : Int) := u8_xor_nat (c % 256) x (by omega) hx
  have hlt : c % 256 ^^^ x < 256 := Nat.xor_lt_two_pow (n := 8) (by omega) (by omega)
  rw [h1, stepTab_nat _ (by omega)]
  have h2 := u32_xor_nat (c / 256) (csn 8 (c % 256 ^^^ x)) (by omega) (csn_lt 8 (by omega))
  rw [cs_byte] at h2
  exact h2
theorem more_fold (m : List Nat) : ∀ c : Nat, c < 4294967296 → (∀ x ∈ m, x < 256) →
    (m.map (fun n : Nat => (n : Int))).foldl (fun c x => Go.bits .xor .u32 (c / 256) (stepTab (Go.bits .xor .u8 (c % 256) x))) (c : Int) = ((crc c m : Nat) : Int) := by
  induction m with
  | nil => intro c _ _; rfl
  | cons x r ih =>
    intro c hc h
    have hx := h x (by simp)
    simp only [List.map_cons, List.foldl_cons]
    rw [more_step c x hc hx, ih _ (csn_lt 8 (Nat.xor_lt_two_pow (n := 32) hc (by omega))) (fun y hy => h y (by simp [hy]))]
    rfl
theorem check_More_nat (a : Nat) (m : List Nat) (ha : a < 4294967296) (hm : ∀ x ∈ m, x < 256) :
    check_More.f (a : Int) (m.map (fun n : Nat => (n : Int))) = some ((sumFrom a m : Nat) : Int) := by
  unfold check_More.f
  have h1 : Go.bits .xor .u32 4294967295 (a : Int) = ((ones ^^^ a : Nat) : Int) := u32_xor_nat 4294967295 a (by decide) ha
  have hl : ones ^^^ a < 4294967296 := Nat.xor_lt_two_pow (n := 32) (by decide) (by omega)
  rw [h1, more_fold m _ hl hm]
  exact congrArg some (u32_xor_nat 4294967295 _ (by decide) (crc_lt m (by omega) hm))
theorem check_Sum_nat (m : List Nat) (hm : ∀ x ∈ m, x < 256) : check_Sum.f (m.map (fun n : Nat => (n : Int))) = some ((sumFrom 0 m : Nat) : Int) := by
  unfold check_Sum.f
  have := check_More_nat 0 m (by decide) hm
  rw [show ((0 : Nat) : Int) = 0 from rfl] at this
  rw [this]; rfl
end
section
open Go.RowKit Go.Proofs.YtdpodjgggicaoaaW.PrintWords Go.Proofs.YtdpodjgggicaoaaW.PrintLast Go.Proofs.YtdpodjgggicaoaaW.PrintMore Go.Proofs.Ytdpodjgggicaoaa.H
theorem w64 (x : Int) (h0 : 0 ≤ x) (h1 : x ≤ 9223372036854775807) : wrap64 x = x := by unfold wrap64; omega
theorem wu64 (x : Int) : IntKind.u64.wrap x = x % 18446744073709551616 := by simp [IntKind.wrap, IntKind.bits, IntKind.signed]
theorem cnt_mn (size : Int) : mn (mx size 0) 8 = (cnt size : Int) := by
  unfold mn mx cnt
  split <;> split <;> omega
theorem putNums_nb (k : Nat) : ∀ n : Nat, putNums k (n : Int) = rowB (nb k n) := by
  induction k with
  | zero => intro n; rfl
  | succ k ih =>
    intro n
    simp only [putNums, nb, rowB_cons]
    rw [show (n : Int) / 256 = ((n / 256 : Nat) : Int) by omega, ih, show (n : Int) % 256 = ((n % 256 : Nat) : Int) by omega]
theorem pack_Put_nat (b : List Nat) (n : Nat) (size : Int) (hl : b.length + 8 < 140737488355328) : pack_Put.f (rowB b) (n : Int) size = some (rowB (b ++ nb (cnt size) n)) := by
  unfold pack_Put.f
  rw [rowB_length, if_pos hl, cnt_mn, Int.toNat_natCast, putNums_nb, rowB_append]
theorem or_low (x y : Nat) (hx : x < 72057594037927936) (hy : y < 256) : Go.bits .or .u64 ((x * 256 : Nat) : Int) ((y : Nat) : Int) = ((x * 256 + y : Nat) : Int) := by
  rw [u64_or_nat (x * 256) y (by omega) (by omega), nat_join 8 (x * 256) y (by omega) (by omega)]
theorem getD_drop_take (b : List Nat) (p k : Nat) (h : p + k < b.length) : (b.drop p).take (k + 1) = (b.drop p).take k ++ [b.getD (p + k) 0] := by
  have hk : k < (b.drop p).length := by rw [List.length_drop]; omega
  rw [List.take_succ_eq_append_getElem hk, List.getElem_drop, List.getD_eq_getElem?_getD, List.getElem?_eq_getElem h]
  rfl
theorem pack_Get_loop (b : List Nat) (p k : Nat) (hb : isB b) (hk : k ≤ 8) (hp : p + k ≤ b.length) (hl : b.length < 4611686018427387904) : ∀ (d : Nat) (acc : List Nat), d ≤ k → (b.drop p).take k = (b.drop p).take d ++ acc →
    pack_Get.l0 (d + 1) (rowB b) (p : Int) ((num acc : Nat) : Int) ((d : Int) - 1) = some (((num ((b.drop p).take k) : Nat) : Int), true) := by
  intro d
  induction d with
  | zero =>
    intro acc hd h
    rw [pack_Get.l0, if_neg (by omega)]
    rw [h]; simp
  | succ d ih =>
    intro acc hd h
    have hacc : isB acc := isB_right (h ▸ isB_take (isB_drop hb p) k)
    have hal : acc.length = k - (d + 1) := by
      have := congrArg List.length h
      rw [List.length_append, List.length_take, List.length_take, List.length_drop] at this
      omega
    have hlt := num_lt acc hacc
    have hle : 256 ^ acc.length ≤ 72057594037927936 := by
      have : 256 ^ acc.length ≤ 256 ^ 7 := Nat.pow_le_pow_right (by decide) (by omega)
      exact Nat.le_trans this (by decide)
    have hx : num acc < 72057594037927936 := Nat.lt_of_lt_of_le hlt hle
    clear hlt hle
    have hw : wrap64 ((p : Int) + (((d + 1 : Nat) : Int) - 1)) = ((p + d : Nat) : Int) := by rw [w64 _ (by omega) (by omega)]; omega
    have hw2 : wrap64 ((((d + 1 : Nat) : Int) - 1) - 1) = (d : Int) - 1 := by unfold wrap64; omega
    have hy := getD_lt hb (p + d)
    have hu1 : IntKind.u64.wrap (((num acc : Nat) : Int) * 256) = ((num acc * 256 : Nat) : Int) := by rw [wu64]; omega
    have hu2 : IntKind.u64.wrap (((b.getD (p + d) 0 : Nat)) : Int) = ((b.getD (p + d) 0 : Nat) : Int) := by rw [wu64]; omega
    rw [pack_Get.l0, if_pos (by omega), hw, if_pos (by omega), rowB_length, if_pos (by omega), rd_rowB _ _ (by omega), hu1, hu2, or_low _ _ hx hy, hw2]
    have h2 := ih (b.getD (p + d) 0 :: acc) (by omega) (by rw [h, getD_drop_take b p d (by omega)]; simp)
    simp only [num] at h2
    rw [show num acc * 256 + b.getD (p + d) 0 = b.getD (p + d) 0 + 256 * num acc by omega]
    exact h2
theorem pack_there_nat (b : List Nat) (at_ : Int) (k : Nat) (hl : b.length < 4611686018427387904) : pack_there.f (rowB b) at_ (k : Int) = some (decide (0 ≤ at_ ∧ at_ + (k : Int) ≤ (b.length : Int))) := by
  unfold pack_there.f
  rw [rowB_length]
  by_cases h1 : at_ ≥ 0
  · rw [if_pos h1]
    by_cases h2 : at_ ≤ (b.length : Int)
    · rw [if_pos h2, w64 _ (by omega) (by omega)]
      congr 1
      rw [decide_eq_decide]
      omega
    · rw [if_neg h2, decide_eq_false (by omega)]
  · rw [if_neg h1, decide_eq_false (by omega)]
def getR (b : List Nat) (at_ : Int) (k : Nat) : Int × Bool := match getN b at_ k with
  | some n => ((n : Int), true)
  | none => (0, false)
theorem pack_Get_nat (K : Nat) (hK : 9 ≤ K) (b : List Nat) (at_ size : Int) (hb : isB b) (hl : b.length < 4611686018427387904) : pack_Get.f K (rowB b) at_ size = some (getR b at_ (cnt size)) := by
  have hc := cnt_le size
  refine at_rounds (pack_Get.mono (rowB b) at_ size) (show cnt size + 1 ≤ K by omega) ?_
  unfold pack_Get.f
  have h1 : pack_count.f size = some (cnt size : Int) := by unfold pack_count.f; rw [cnt_mn]
  rw [h1]
  simp only [Option.bind_some]
  rw [pack_there_nat b at_ (cnt size) hl]
  simp only [Option.bind_some]
  unfold getR getN
  by_cases h : 0 ≤ at_ ∧ at_ + (cnt size : Int) ≤ (b.length : Int)
  · rw [decide_eq_true h, if_pos rfl, if_pos h]
    obtain ⟨p, rfl⟩ := Int.eq_ofNat_of_zero_le h.1
    have hw : wrap64 ((cnt size : Int) - 1) = (cnt size : Int) - 1 := by unfold wrap64; omega
    have := pack_Get_loop b p (cnt size) hb hc (by omega) hl (cnt size) [] (Nat.le_refl _) (by simp)
    rw [hw]
    rw [Int.toNat_natCast]
    exact this
  · rw [decide_eq_false h, if_neg (by decide), if_neg h]
theorem clone_nat (b : List Nat) (hl : b.length < 70368744177664) : slices_Clone_byte_byte.f (rowB b) = some (rowB b) := by
  unfold slices_Clone_byte_byte.f; rw [rowB_length, if_pos (by omega)]
end
section
open Go.RowKit Go.Proofs.YtdpodjgggicaoaaW.PrintWords Go.Proofs.YtdpodjgggicaoaaW.PrintLast Go.Proofs.YtdpodjgggicaoaaW.PrintMore Go.Proofs.Ytdpodjgggicaoaa.H
theorem pack_PutText_nat (b s : List Nat) (hs : isB s) (hl : b.length < 70368744177664) : pack_PutText.f (rowB b) (txt s) = some (rowB (b ++ field s)) := by
  unfold pack_PutText.f
  rw [clone_nat b hl]
  simp only [Option.bind_some]
  rw [txt_size]
  unfold field
  by_cases h : s.length ≤ 16
  · have hw : wrap64 (16 - (s.length : Int)) = ((16 - s.length : Nat) : Int) := by rw [w64 _ (by omega) (by omega)]; omega
    have e1 : rowB b ++ [((s.length : Int)) % 256] = rowB (b ++ [s.length]) := by
      rw [show ((s.length : Int)) % 256 = (s.length : Int) by omega, rowB_append]; rfl
    rw [if_neg (by omega), if_pos h, rowB_length, if_pos (by omega), e1, bytesOf_txt s hs, rowB_length, if_pos (by rw [List.length_append]; simp; omega), hw, if_pos (by omega), ← rowB_append, Int.toNat_natCast, rowB_length,
      if_pos (by rw [List.length_append, List.length_append]; simp; omega), show List.replicate (16 - s.length) (0 : Int) = rowB (List.replicate (16 - s.length) 0) from rowB_replicate _ 0, ← rowB_append]
    simp
  · rw [if_pos (by omega), if_neg h, List.append_nil]
end
section
open Go.RowKit Go.Proofs.YtdpodjgggicaoaaW.PrintWords Go.Proofs.YtdpodjgggicaoaaW.PrintLast Go.Proofs.YtdpodjgggicaoaaW.PrintMore Go.Proofs.Ytdpodjgggicaoaa.H
def getTR (b : List Nat) (at_ : Int) : ByteArray × Bool := match getT b at_ with
  | some s => (txt s, true)
  | none => (⟨#[]⟩, false)
theorem tail17 (b : List Nat) (p : Nat) (h : p + 17 ≤ b.length) : (b.take (p + 17)).drop (p + 1) = ((b.drop p).take 17).tail ∧ ((b.drop p).take 17) = b.getD p 0 :: ((b.drop p).take 17).tail := by
  have h1 : b.drop p = b.getD p 0 :: b.drop (p + 1) := by
    rw [List.drop_eq_getElem_cons (by omega), List.getD_eq_getElem?_getD, List.getElem?_eq_getElem (by omega)]; rfl
  rw [h1]
  constructor
  · rw [List.drop_take]; simp
  · simp
theorem any_zero (l : List Nat) : ((rowB l).any fun c => c != 0) = !(decide (l = List.replicate l.length 0)) := by
  induction l with
  | nil => rfl
  | cons x r ih =>
    simp only [rowB_cons, List.any_cons, ih, List.length_cons, List.replicate_succ, List.cons.injEq]
    by_cases hx : x = 0
    · subst hx; simp
    · have : ((x : Int) != 0) = true := by rw [bne_iff_ne]; omega
      rw [this]
      simp [hx]
theorem pack_GetText_nat (K : Nat) (hK : 1 ≤ K) (b : List Nat) (at_ : Int) (hb : isB b) (hl : b.length < 4611686018427387904) : pack_GetText.f K (rowB b) at_ = some (getTR b at_) := by
  refine at_rounds (pack_GetText.mono (rowB b) at_) hK ?_
  unfold pack_GetText.f
  have ht := pack_there_nat b at_ 17 hl
  rw [show ((17 : Nat) : Int) = 17 from rfl] at ht
  rw [ht]
  simp only [Option.bind_some]
  unfold getTR getT
  by_cases h : 0 ≤ at_ ∧ at_ + 17 ≤ (b.length : Int)
  · rw [decide_eq_true h, if_pos rfl, if_pos h.1, rowB_length, if_pos (by omega), if_pos h]
    obtain ⟨p, rfl⟩ := Int.eq_ofNat_of_zero_le h.1
    have hp : p + 17 ≤ b.length := by omega
    have hy := getD_lt hb p
    have w1 : wrap64 ((p : Int) + 1) = ((p + 1 : Nat) : Int) := w64 _ (by omega) (by omega)
    have w2 : wrap64 ((p : Int) + 17) = ((p + 17 : Nat) : Int) := w64 _ (by omega) (by omega)
    have w3 : wrap64 ((b.getD p 0 : Nat) : Int) = ((b.getD p 0 : Nat) : Int) := w64 _ (by omega) (by omega)
    obtain ⟨t1, t2⟩ := tail17 b p hp
    rw [rd_rowB b p (by omega), Int.toNat_natCast, pack_GetText.j0]
    generalize hT : ((b.drop p).take 17).tail = T at *
    generalize hY : b.getD p 0 = y at *
    have hTl : T.length = 16 := by rw [← hT, List.length_tail, List.length_take, List.length_drop]; omega
    by_cases hy16 : y ≤ 16
    · rw [show decide (((y : Nat) : Int) > 16) = false from decide_eq_false (by omega), if_neg (by decide), w1, w2, if_pos (by omega), if_pos (by omega), rowB_length, if_pos (by omega), if_pos (by omega), if_pos (by omega),
        rd_rowB b p (by omega), hY, w3, if_pos (by omega), Int.toNat_natCast, Int.toNat_natCast, Int.toNat_natCast, rowB_take, rowB_drop, t1, rowB_length, hTl, if_pos (by omega), rowB_drop, rowB_take, strOf_rowB]
      unfold slices_ContainsFunc_byte_byte.f
      rw [if_pos rfl]
      simp only [Option.bind_some]
      rw [any_zero, List.length_drop, hTl, t2]
      have hf : field (T.take y) = y :: T.take y ++ List.replicate (16 - y) 0 := by
        unfold field
        rw [List.length_take, hTl, Nat.min_eq_left hy16, if_pos hy16]
      by_cases hz : T.drop y = List.replicate (16 - y) 0
      · rw [decide_eq_true hz, if_neg (by decide), if_pos ⟨hy16, by
          rw [hf, ← hz, List.cons_append, List.take_append_drop]⟩]
      · rw [decide_eq_false hz, if_pos (by decide), if_neg]
        rintro ⟨_, e⟩
        rw [hf, List.cons_append] at e
        have e2 := (List.cons.inj e).2
        apply hz
        have e3 := congrArg (List.drop y) e2
        rw [List.drop_left' (by rw [List.length_take, hTl]; omega)] at e3
        exact e3
    · rw [show decide (((y : Nat) : Int) > 16) = true from decide_eq_true (by omega), if_pos rfl, if_neg (fun hh => hy16 hh.1)]
  · rw [decide_eq_false h, if_neg (by decide), if_neg h, pack_GetText.j0, if_pos rfl]
end
section
open Go.RowKit Go.Proofs.YtdpodjgggicaoaaW.PrintWords Go.Proofs.YtdpodjgggicaoaaW.PrintLast Go.Proofs.YtdpodjgggicaoaaW.PrintMore Go.Proofs.Ytdpodjgggicaoaa.H
theorem w64_ (x : Int) (h0 : 0 ≤ x) (h1 : x ≤ 9223372036854775807) : wrap64 x = x := by unfold wrap64; omega
theorem ev_eq {α : Type} {g : Nat → Option α} {r r' : α} (h : Ev g r) (e : r = r') : Ev g r' := e ▸ h
theorem span_letter_eq (c : Int) : span_letter.f c = some (letterB c) := by
  have hb : (c == 95) = decide (c = 95) := by by_cases h : c = 95 <;> simp [h]
  unfold span_letter.f letterB
  rw [hb]
  (repeat' split) <;> (congr 1; simp; omega)
theorem drop_all {m : List Nat} {i : Nat} (h : i < m.length) (p : Nat → Bool) : (m.drop i).all p = (p (m.getD i 0) && (m.drop (i + 1)).all p) := by
  rw [List.drop_eq_getElem_cons h, List.all_cons, List.getD_eq_getElem?_getD, List.getElem?_eq_getElem h]; rfl
theorem span_Name_l0 (m : List Nat) (hb : isB m) (hl : m.length < 4611686018427387904) : ∀ (d i : Nat), i + d = m.length → Ev (fun k => span_Name.l0 k (txt m) (m.length : Int) (i : Int)) ((m.drop i).all fun c => letterB (c : Int)) := by
  intro d
  induction d with
  | zero =>
    intro i hi
    rw [List.drop_of_length_le (by omega)]
    exact Ev.step (f := fun _ => some true) (fun k => by rw [span_Name.l0, if_neg (by omega)]) (Ev.now _)
  | succ d ih =>
    intro i hi
    have hil : i < m.length := by omega
    have e : wrap64 ((i : Int) + 1) = ((i + 1 : Nat) : Int) := w64_ _ (by omega) (by omega)
    rw [drop_all hil]
    cases hc : letterB ((m.getD i 0 : Nat) : Int) with
    | true =>
      rw [Bool.true_and]
      refine Ev.step (f := fun k => span_Name.l0 k (txt m) (m.length : Int) ((i + 1 : Nat) : Int)) (fun k => ?_) (ih (i + 1) (by omega))
      rw [span_Name.l0, if_pos (by omega), if_pos (by omega), txt_size, if_pos (by omega), bt_txt m hb i hil, span_letter_eq, Option.bind_some, hc, if_pos rfl, e]
    | false =>
      rw [Bool.false_and]
      refine Ev.step (f := fun _ => some false) (fun k => ?_) (Ev.now _)
      rw [span_Name.l0, if_pos (by omega), if_pos (by omega), txt_size, if_pos (by omega), bt_txt m hb i hil, span_letter_eq, Option.bind_some, hc, if_neg (by decide)]
theorem span_Name_ev (m : List Nat) (hb : isB m) (hl : m.length < 4611686018427387904) : Ev (fun k => span_Name.f k (txt m)) (nameB m) := by
  have key : ∀ b : Bool, Ev (fun k => span_Name.j0 k (txt m) b) (!b && m.all fun c => letterB (c : Int)) := by
    intro b
    cases b with
    | true => exact Ev.step (f := fun _ => some false) (fun k => by rw [span_Name.j0, if_pos rfl]) (Ev.now _)
    | false =>
      have := span_Name_l0 m hb hl m.length 0 (by omega)
      rw [List.drop_zero] at this
      exact Ev.step (f := fun k => span_Name.l0 k (txt m) (m.length : Int) ((0 : Nat) : Int)) (fun k => by rw [span_Name.j0, if_neg (by decide), txt_size]; rfl) this
  unfold nameB
  by_cases h1 : (m.length : Int) < 1
  · refine ev_eq (Ev.congr (f := fun k => span_Name.j0 k (txt m) true) (fun k => by rw [span_Name.f, txt_size, if_pos h1]) (key true)) ?_
    rw [decide_eq_false (by omega)]; rfl
  · refine ev_eq (Ev.congr (f := fun k => span_Name.j0 k (txt m) (decide ((m.length : Int) > 16))) (fun k => by rw [span_Name.f, txt_size, if_neg h1]) (key _)) ?_
    rw [decide_eq_true (show 1 ≤ m.length by omega), Bool.true_and]
    congr 1
    by_cases h2 : (m.length : Int) > 16
    · rw [decide_eq_true h2, decide_eq_false (by omega)]; rfl
    · rw [decide_eq_false h2, decide_eq_true (by omega)]; rfl
theorem span_May_ev (a b c d : Int) (h n : List Nat) (s t : Int) (hh : isB h) (hhl : h.length < 4611686018427387904) (hn : isB n) (hnl : n.length < 4611686018427387904) : Ev (fun k => span_May.f k a b c d (txt h) (txt n) s t) (mayB a b c d h n s t) := by
  have k1 : ∀ x : Bool, Ev (fun k => span_May.j1 k x a b c d (txt h) (txt n) s t) (!x && (nameB h && nameB n)) := by
    intro x
    cases x with
    | true => exact Ev.step (f := fun _ => some false) (fun k => by rw [span_May.j1, if_pos rfl]) (Ev.now _)
    | false =>
      refine Ev.step (f := fun k => (span_Name.f k (txt h)).bind fun t105 => (if t105 = true then ((span_Name.f k (txt n)).bind fun t106 => (some t106)) else (some false))) (fun k => by rw [span_May.j1, if_neg (by decide)]) ?_
      refine Ev.bind (span_Name_ev h hh hhl) ?_
      cases hb : nameB h with
      | true => exact Ev.congr (fun k => if_pos rfl) (Ev.bind (span_Name_ev n hn hnl) (Ev.now _))
      | false => exact Ev.congr (fun k => if_neg (by decide)) (Ev.now _)
  have k0 : ∀ x : Bool, Ev (fun k => span_May.j0 k x a b c d (txt h) (txt n) s t) (!x && (decide (0 ≤ s) && decide (s < 1125899906842624) && decide (0 ≤ t) && decide (t ≤ 1125899906842624) && (nameB h && nameB n))) := by
    intro x
    cases x with
    | true => exact Ev.step (f := fun _ => some false) (fun k => by rw [span_May.j0, if_pos rfl]) (Ev.now _)
    | false =>
      by_cases c1 : s < 0
      · refine ev_eq (Ev.step (f := fun k => span_May.j1 k true a b c d (txt h) (txt n) s t) (fun k => by rw [span_May.j0, if_neg (by decide), if_pos c1, decide_eq_true c1]) (k1 true)) ?_
        rw [decide_eq_false (by omega)]; rfl
      by_cases c2 : s ≥ 1125899906842624
      · refine ev_eq (Ev.step (f := fun k => span_May.j1 k true a b c d (txt h) (txt n) s t) (fun k => by rw [span_May.j0, if_neg (by decide), if_neg c1, if_pos c2, decide_eq_true c2]) (k1 true)) ?_
        rw [decide_eq_false (show ¬ s < 1125899906842624 by omega)]; simp
      by_cases c3 : t < 0
      · refine ev_eq (Ev.step (f := fun k => span_May.j1 k true a b c d (txt h) (txt n) s t) (fun k => by rw [span_May.j0, if_neg (by decide), if_neg c1, if_neg c2, if_pos c3, decide_eq_true c3]) (k1 true)) ?_
        rw [decide_eq_false (show ¬ 0 ≤ t by omega)]; simp
      · refine ev_eq (Ev.step (f := fun k => span_May.j1 k (decide (t > 1125899906842624)) a b c d (txt h) (txt n) s t) (fun k => by rw [span_May.j0, if_neg (by decide), if_neg c1, if_neg c2, if_neg c3]) (k1 _)) ?_
        rw [decide_eq_true (show 0 ≤ s by omega), decide_eq_true (show s < 1125899906842624 by omega), decide_eq_true (show 0 ≤ t by omega)]
        by_cases c4 : t > 1125899906842624
        · rw [decide_eq_true c4, decide_eq_false (by omega)]; simp
        · rw [decide_eq_false c4, decide_eq_true (by omega)]; simp
  unfold mayB
  by_cases c1 : a = 0
  · refine ev_eq (Ev.congr (f := fun k => span_May.j0 k true a b c d (txt h) (txt n) s t) (fun k => by rw [span_May.f, if_pos c1, beq_iff_eq.2 c1]) (k0 true)) ?_
    simp [c1]
  by_cases c2 : b = 0
  · refine ev_eq (Ev.congr (f := fun k => span_May.j0 k true a b c d (txt h) (txt n) s t) (fun k => by rw [span_May.f, if_neg c1, if_pos c2, beq_iff_eq.2 c2]) (k0 true)) ?_
    simp [c2]
  by_cases c3 : c = b
  · refine ev_eq (Ev.congr (f := fun k => span_May.j0 k true a b c d (txt h) (txt n) s t) (fun k => by rw [span_May.f, if_neg c1, if_neg c2, if_pos c3, beq_iff_eq.2 c3]) (k0 true)) ?_
    simp [c3]
  · refine ev_eq (Ev.congr (f := fun k => span_May.j0 k (decide (d > 2)) a b c d (txt h) (txt n) s t) (fun k => by rw [span_May.f, if_neg c1, if_neg c2, if_neg c3]) (k0 _)) ?_
    by_cases c4 : d > 2
    · rw [decide_eq_true c4, decide_eq_false (show ¬ d ≤ 2 by omega)]; simp
    · rw [decide_eq_false c4, decide_eq_true (show d ≤ 2 by omega)]; simp [c1, c2, c3, Bool.and_assoc]
end
section
open Go.RowKit Go.Proofs.YtdpodjgggicaoaaW.PrintWords Go.Proofs.YtdpodjgggicaoaaW.PrintLast Go.Proofs.YtdpodjgggicaoaaW.PrintMore Go.Proofs.Ytdpodjgggicaoaa.H
def mkS (p : PS) : S77 := ⟨(p.a : Int), (p.b : Int), (p.c : Int), (p.d : Int), txt p.h, txt p.n, p.s, p.t⟩
theorem rd_mkS (l : List PS) (i : Nat) (hi : i < l.length) : rd_T77 (l.map mkS) (i : Int) = mkS l[i] := by
  show (l.map mkS).getD _ _ = _
  simp [List.getD_eq_getElem?_getD, List.getElem?_eq_getElem hi]
theorem mayP_ev (p : PS) (g : p.good) (hl : p.h.length < 4611686018427387904) (nl : p.n.length < 4611686018427387904) : Ev (fun k => span_May.f k (mkS p).f0 (mkS p).f1 (mkS p).f2 (mkS p).f3 (mkS p).f4 (mkS p).f5 (mkS p).f6 (mkS p).f7) (mayP p) :=
  span_May_ev _ _ _ _ _ _ _ _ g.h hl g.n nl
theorem plain_spans (l0 : List S77) (h : ∀ x0_ ∈ l0, ((Lit.int .u64 x0_.f0).wf = true ∧ (Lit.int .u64 x0_.f1).wf = true ∧ (Lit.int .u64 x0_.f2).wf = true ∧ (Lit.int .u8 x0_.f3).wf = true ∧ x0_.f4.size ≤ maxLen ∧ x0_.f5.size ≤ maxLen ∧ (Lit.int .i64 x0_.f6).wf = true ∧ (Lit.int .i64 x0_.f7).wf = true)) :
    ∃ l : List PS, l0 = l.map mkS ∧ ∀ p ∈ l, p.good := by
  induction l0 with
  | nil => exact ⟨[], rfl, fun p hp => absurd hp (by simp)⟩
  | cons x r ih =>
    obtain ⟨l, rfl, hg⟩ := ih (fun y hy => h y (by simp [hy]))
    obtain ⟨h0, h1, h2, h3, h4, h5, h6, h7⟩ := h x (by simp)
    obtain ⟨f0, f1, f2, f3, f4, f5, f6, f7⟩ := x
    obtain ⟨hh, rfl, hhb⟩ := txt_of f4
    obtain ⟨nn, rfl, nnb⟩ := txt_of f5
    simp [Lit.wf, IntKind.min, IntKind.max, IntKind.signed, IntKind.bits, txt_size, maxLen] at h0 h1 h2 h3 h4 h5 h6 h7
    obtain ⟨a, rfl⟩ := Int.eq_ofNat_of_zero_le h0.1
    obtain ⟨b, rfl⟩ := Int.eq_ofNat_of_zero_le h1.1
    obtain ⟨c, rfl⟩ := Int.eq_ofNat_of_zero_le h2.1
    obtain ⟨d, rfl⟩ := Int.eq_ofNat_of_zero_le h3.1
    refine ⟨⟨a, b, c, d, hh, nn, f6, f7⟩ :: l, rfl, fun p hp => ?_⟩
    rcases List.mem_cons.1 hp with rfl | hp
    · exact ⟨by show a < _; omega, by show b < _; omega, by show c < _; omega, by show d < _; omega, hhb, by show hh.length ≤ _; omega, nnb, by show nn.length ≤ _; omega, by show _ ≤ f6; omega, by show f6 < _; omega, by show _ ≤ f7; omega, by show f7 < _; omega⟩
    · exact hg p hp
end
section
open Go.RowKit Go.Proofs.YtdpodjgggicaoaaW.PrintWords Go.Proofs.YtdpodjgggicaoaaW.PrintLast Go.Proofs.YtdpodjgggicaoaaW.PrintMore Go.Proofs.Ytdpodjgggicaoaa.H
theorem u64n_wu (x : Int) : IntKind.u64.wrap x = ((u64n x : Nat) : Int) := by rw [wu64]; unfold u64n; omega
theorem wire_put_ev (b : List Nat) (p : PS) (g : p.good) (hb : b.length < 35184372088832) : Ev (fun k => wire_put.f k (rowB b) (mkS p).f0 (mkS p).f1 (mkS p).f2 (mkS p).f3 (mkS p).f4 (mkS p).f5 (mkS p).f6 (mkS p).f7) (rowB (b ++ bytesP p)) := by
  have fl : ∀ m : List Nat, (field m).length ≤ 17 := fun m => by
    unfold field; split
    · simp; omega
    · simp
  have e3 : ∀ (b : List Nat) (k : Nat), (b ++ nb k 0).length = b.length + k := fun b k => by rw [List.length_append, nb_length]
  have c8 : cnt 8 = 8 := rfl
  have c1 : cnt 1 = 1 := rfl
  have w1 : wrap64 (((0 : Nat) : Int) + 1) = ((1 : Nat) : Int) := w64_ _ (by decide) (by decide)
  have w2 : wrap64 (((1 : Nat) : Int) + 1) = ((2 : Nat) : Int) := w64_ _ (by decide) (by decide)
  have w3 : wrap64 (((2 : Nat) : Int) + 1) = ((3 : Nat) : Int) := w64_ _ (by decide) (by decide)
  have h1 : IntKind.u64.wrap (mkS p).f3 = ((p.d : Nat) : Int) := by
    rw [wu64]; show ((p.d : Int) % _) = _; have := g.d; omega
  have r0 : rd [(mkS p).f0, (mkS p).f1, (mkS p).f2] ((0 : Nat) : Int) = (p.a : Int) := rfl
  have r1 : rd [(mkS p).f0, (mkS p).f1, (mkS p).f2] ((1 : Nat) : Int) = (p.b : Int) := rfl
  have r2 : rd [(mkS p).f0, (mkS p).f1, (mkS p).f2] ((2 : Nat) : Int) = (p.c : Int) := rfl
  refine Ev.congr (f := fun k => wire_put.l0 k (rowB b) [(mkS p).f0, (mkS p).f1, (mkS p).f2] 3 ((0 : Nat) : Int) (mkS p).f0 (mkS p).f1 (mkS p).f2 (mkS p).f3 (mkS p).f4 (mkS p).f5 (mkS p).f6 (mkS p).f7) (fun k => by rw [wire_put.f, Option.bind_some]; rfl) ?_
  refine Ev.step (f := fun k => wire_put.l0 k (rowB (b ++ nb 8 p.a)) [(mkS p).f0, (mkS p).f1, (mkS p).f2] 3 ((1 : Nat) : Int) (mkS p).f0 (mkS p).f1 (mkS p).f2 (mkS p).f3 (mkS p).f4 (mkS p).f5 (mkS p).f6 (mkS p).f7) (fun k => by rw [wire_put.l0, if_pos (by decide), if_pos (by decide), if_pos (by simp), r0, pack_Put_nat b p.a 8 (by omega), Option.bind_some, c8, w1]) ?_
  refine Ev.step (f := fun k => wire_put.l0 k (rowB (b ++ nb 8 p.a ++ nb 8 p.b)) [(mkS p).f0, (mkS p).f1, (mkS p).f2] 3 ((2 : Nat) : Int) (mkS p).f0 (mkS p).f1 (mkS p).f2 (mkS p).f3 (mkS p).f4 (mkS p).f5 (mkS p).f6 (mkS p).f7) (fun k => by rw [wire_put.l0, if_pos (by decide), if_pos (by decide), if_pos (by simp), r1, pack_Put_nat _ p.b 8 (by rw [List.length_append, nb_length]; omega), Option.bind_some, c8, w2]) ?_
  refine Ev.step (f := fun k => wire_put.l0 k (rowB (b ++ nb 8 p.a ++ nb 8 p.b ++ nb 8 p.c)) [(mkS p).f0, (mkS p).f1, (mkS p).f2] 3 ((3 : Nat) : Int) (mkS p).f0 (mkS p).f1 (mkS p).f2 (mkS p).f3 (mkS p).f4 (mkS p).f5 (mkS p).f6 (mkS p).f7) (fun k => by rw [wire_put.l0, if_pos (by decide), if_pos (by decide), if_pos (by simp), r2, pack_Put_nat _ p.c 8 (by simp only [List.length_append, nb_length]; omega), Option.bind_some, c8, w3]) ?_
  refine Ev.step (f := fun k => some (rowB (b ++ bytesP p))) (fun k => ?_) (Ev.now _)
  rw [wire_put.l0, if_neg (by decide), h1, pack_Put_nat _ p.d 1 (by simp only [List.length_append, nb_length]; omega), Option.bind_some, c1, u64n_wu (mkS p).f6, pack_Put_nat _ (u64n (mkS p).f6) 8 (by simp only [List.length_append, nb_length]; omega), Option.bind_some, c8, u64n_wu (mkS p).f7,
    pack_Put_nat _ (u64n (mkS p).f7) 8 (by simp only [List.length_append, nb_length]; omega), Option.bind_some, c8]
  show ((pack_PutText.f _ (txt p.h)).bind fun t136 => ((pack_PutText.f t136 (txt p.n)).bind fun t139 => (some t139))) = _
  rw [pack_PutText_nat _ p.h g.h (by simp only [List.length_append, nb_length]; omega), Option.bind_some, pack_PutText_nat _ p.n g.n (by have := fl p.h; simp only [List.length_append, nb_length]; omega), Option.bind_some]
  unfold bytesP
  simp only [List.append_assoc]
  rfl
theorem wire_Put_l0 (l : List PS) (g : ∀ p ∈ l, p.good) (gh : ∀ p ∈ l, p.h.length < 4611686018427387904 ∧ p.n.length < 4611686018427387904) (hl : l.length ≤ 32) : ∀ (d i : Nat) (acc : List Nat), i + d = l.length → acc.length ≤ 100000 + 75 * i →
    Ev (fun k => wire_Put.l0 k (rowB acc) (l.map mkS) (l.length : Int) (i : Int)) (if (l.drop i).all mayP = true then (rowB (acc ++ (l.drop i).flatMap bytesP), 0) else ([], 1)) := by
  intro d
  induction d with
  | zero =>
    intro i acc hi ha
    rw [List.drop_of_length_le (by omega)]
    refine Ev.step (f := fun _ => some (rowB acc, 0)) (fun k => by rw [wire_Put.l0, if_neg (by omega)]) (ev_eq (Ev.now _) ?_)
    simp
  | succ d ih =>
    intro i acc hi ha
    have hil : i < l.length := by omega
    have hm : l[i] ∈ l := List.getElem_mem hil
    have e : wrap64 ((i : Int) + 1) = ((i + 1 : Nat) : Int) := w64_ _ (by omega) (by omega)
    rw [List.drop_eq_getElem_cons hil, List.all_cons, List.flatMap_cons]
    refine Ev.step (f := fun k => (span_May.f k (mkS l[i]).f0 (mkS l[i]).f1 (mkS l[i]).f2 (mkS l[i]).f3 (mkS l[i]).f4 (mkS l[i]).f5 (mkS l[i]).f6 (mkS l[i]).f7).bind fun t150 => (if t150 = true then ((wire_put.f k (rowB []) (mkS l[i]).f0 (mkS l[i]).f1 (mkS l[i]).f2 (mkS l[i]).f3 (mkS l[i]).f4 (mkS l[i]).f5 (mkS l[i]).f6 (mkS l[i]).f7).bind fun t151 => (if (rowB acc).length + t151.length < 140737488355328 then (wire_Put.l0 k (rowB acc ++ t151) (l.map mkS) (l.length : Int) ((i + 1 : Nat) : Int)) else (none))) else (some ([], 1)))) (fun k => ?_) ?_
    · rw [wire_Put.l0, if_pos (by omega), if_pos (by omega), if_pos (by rw [List.length_map]; omega), rd_mkS l i hil, e]; rfl
    · refine Ev.bind (mayP_ev l[i] (g _ hm) (gh _ hm).1 (gh _ hm).2) ?_
      cases hmay : mayP l[i] with
      | false =>
        rw [Bool.false_and, if_neg (by decide)]
        exact Ev.congr (fun k => if_neg (by decide)) (Ev.now _)
      | true =>
        rw [Bool.true_and]
        refine Ev.congr (fun k => if_pos rfl) ?_
        have hw := wire_put_ev [] l[i] (g _ hm) (by simp)
        rw [List.nil_append] at hw
        obtain ⟨m1, m2⟩ := mayP_names hmay
        have hbl := bytesP_length (nameB_len m1).2 (nameB_len m2).2
        refine Ev.bind hw ?_
        refine Ev.congr (f := fun k => wire_Put.l0 k (rowB (acc ++ bytesP l[i])) (l.map mkS) (l.length : Int) ((i + 1 : Nat) : Int)) (fun k => by rw [if_pos (by rw [rowB_length, rowB_length, hbl]; omega), rowB_append]) ?_
        have := ih (i + 1) (acc ++ bytesP l[i]) (by omega) (by rw [List.length_append, hbl]; omega)
        rwa [List.append_assoc] at this
theorem wire_Put_ev (l : List PS) (g : ∀ p ∈ l, p.good) (gh : ∀ p ∈ l, p.h.length < 4611686018427387904 ∧ p.n.length < 4611686018427387904) : Ev (fun k => wire_Put.f k (l.map mkS)) (rowB (wirePut l).1, (wirePut l).2) := by
  have key : ∀ x : Bool, (x = false → 1 ≤ l.length ∧ l.length ≤ 32) → Ev (fun k => wire_Put.j0 k (l.map mkS) x) (if x = false ∧ l.all mayP = true then (rowB (spanHead ++ nb 2 l.length ++ l.flatMap bytesP), 0) else ([], 1)) := by
    intro x hx
    cases x with
    | true => exact Ev.step (f := fun _ => some ([], 1)) (fun k => by rw [wire_Put.j0, if_pos rfl]) (Ev.now _)
    | false =>
      obtain ⟨h1, h2⟩ := hx rfl
      have := wire_Put_l0 l g gh h2 l.length 0 (spanHead ++ nb 2 l.length) (by omega) (by rw [List.length_append, nb_length]; decide)
      rw [List.drop_zero] at this
      refine ev_eq (Ev.step (f := fun k => wire_Put.l0 k (rowB (spanHead ++ nb 2 l.length)) (l.map mkS) (l.length : Int) ((0 : Nat) : Int)) (fun k => ?_) this) ?_
      · have e : IntKind.u64.wrap ((l.map mkS).length : Int) = ((l.length : Nat) : Int) := by rw [wu64, List.length_map]; omega
        rw [wire_Put.j0, if_neg (by decide), e, show ([83, 80, 65, 78] : List Int) = rowB spanHead from rfl, pack_Put_nat _ _ _ (by decide), Option.bind_some, List.length_map]; rfl
      · simp only [true_and]
  unfold wirePut
  by_cases h1 : (l.length : Int) < 1
  · refine ev_eq (Ev.congr (f := fun k => wire_Put.j0 k (l.map mkS) true) (fun k => by rw [wire_Put.f, List.length_map, if_pos h1]) (key true (fun h => absurd h (by decide)))) ?_
    rw [if_neg (by simp), if_neg (by omega)]; rfl
  · by_cases h2 : (l.length : Int) > 32
    · refine ev_eq (Ev.congr (f := fun k => wire_Put.j0 k (l.map mkS) true) (fun k => by rw [wire_Put.f, List.length_map, if_neg h1, decide_eq_true h2]) (key true (fun h => absurd h (by decide)))) ?_
      rw [if_neg (by simp), if_neg (by omega)]; rfl
    · refine ev_eq (Ev.congr (f := fun k => wire_Put.j0 k (l.map mkS) false) (fun k => by rw [wire_Put.f, List.length_map, if_neg h1, decide_eq_false h2]) (key false (fun _ => ⟨by omega, by omega⟩))) ?_
      by_cases h3 : l.all mayP = true
      · rw [if_pos ⟨rfl, h3⟩, if_pos ⟨by omega, by omega, h3⟩]
      · rw [if_neg (fun h => h3 h.2), if_neg (fun h => h3 h.2.2)]; rfl
end
section
open Go.RowKit Go.Proofs.YtdpodjgggicaoaaW.PrintWords Go.Proofs.YtdpodjgggicaoaaW.PrintLast Go.Proofs.YtdpodjgggicaoaaW.PrintMore Go.Proofs.Ytdpodjgggicaoaa.H
theorem pack_Get_ev (b : List Nat) (at_ size : Int) (hb : isB b) (hl : b.length < 4611686018427387904) : Ev (fun k => pack_Get.f k (rowB b) at_ size) (getR b at_ (cnt size)) := ⟨9, fun k hk => pack_Get_nat k hk b at_ size hb hl⟩
theorem pack_GetText_ev (b : List Nat) (at_ : Int) (hb : isB b) (hl : b.length < 4611686018427387904) : Ev (fun k => pack_GetText.f k (rowB b) at_) (getTR b at_) := ⟨1, fun k hk => pack_GetText_nat k hk b at_ hb hl⟩
theorem getR_in (b : List Nat) (p k : Nat) (h : p + k ≤ b.length) : getR b (p : Int) k = (((num ((b.drop p).take k) : Nat) : Int), true) := by
  unfold getR getN
  rw [if_pos (by omega), Int.toNat_natCast]
def resP (r : Except Int PS) : Int × Int × Int × Int × ByteArray × ByteArray × Int × Int × Int := match r with
  | .ok p => ((p.a : Int), (p.b : Int), (p.c : Int), (p.d : Int), txt p.h, txt p.n, p.s, p.t, 0)
  | .error e => (0, 0, 0, 0, ⟨#[]⟩, ⟨#[]⟩, 0, 0, e)
def resG (r : Except Int (List PS)) : List S77 × Int := match r with
  | .ok l => (l.map mkS, 0)
  | .error e => ([], e)
theorem wire_get_ev (b : List Nat) (hb : isB b) (hl : b.length = 75) : Ev (fun k => wire_get.f k (rowB b)) (resP (getP b)) := by
  have c8 : cnt 8 = 8 := rfl
  have c1 : cnt 1 = 1 := rfl
  have g : ∀ (p : Nat) (size : Int) (k : Nat), cnt size = k → p + k ≤ 75 → Ev (fun q => pack_Get.f q (rowB b) (p : Int) size) (((num ((b.drop p).take k) : Nat) : Int), true) := fun p size k hk hp => by
    have := pack_Get_ev b (p : Int) size hb (by omega)
    rwa [hk, getR_in b p k (by omega)] at this
  unfold wire_get.f
  have e0 := g 0 8 8 c8 (by omega)
  rw [List.drop_zero] at e0
  refine Ev.bind e0 (Ev.bind (g 8 8 8 c8 (by omega)) (Ev.bind (g 16 8 8 c8 (by omega)) (Ev.bind (g 24 1 1 c1 (by omega)) (Ev.bind (g 25 8 8 c8 (by omega)) (Ev.bind (g 33 8 8 c8 (by omega)) (Ev.bind (pack_GetText_ev b 41 hb (by omega)) (Ev.bind (pack_GetText_ev b 58 hb (by omega)) ?_)))))))
  unfold getTR getP
  cases h1 : getT b 41 with
  | none => exact Ev.congr (fun k => if_neg (by decide)) (Ev.now _)
  | some hh =>
    cases h2 : getT b 58 with
    | none => exact Ev.congr (f := fun _ => some (resP (Except.error 3))) (fun k => by rw [if_pos rfl, if_neg (by decide)]; rfl) (Ev.now _)
    | some nn =>
      obtain ⟨x1, x2⟩ := getT_isB hb h1
      obtain ⟨y1, y2⟩ := getT_isB hb h2
      have hd : ((num ((b.drop 24).take 1) : Nat) : Int) % 256 = ((num ((b.drop 24).take 1) : Nat) : Int) := by have := num1_lt hb 24; omega
      have hm := span_May_ev ((num (b.take 8) : Nat) : Int) ((num ((b.drop 8).take 8) : Nat) : Int) ((num ((b.drop 16).take 8) : Nat) : Int) ((num ((b.drop 24).take 1) : Nat) : Int) hh nn (wrap64 ((num ((b.drop 25).take 8) : Nat) : Int)) (wrap64 ((num ((b.drop 33).take 8) : Nat) : Int)) x1 (by omega) y1 (by omega)
      refine Ev.congr (f := fun k => (span_May.f k ((num (b.take 8) : Nat) : Int) ((num ((b.drop 8).take 8) : Nat) : Int) ((num ((b.drop 16).take 8) : Nat) : Int) ((num ((b.drop 24).take 1) : Nat) : Int) (txt hh) (txt nn) (wrap64 ((num ((b.drop 25).take 8) : Nat) : Int)) (wrap64 ((num ((b.drop 33).take 8) : Nat) : Int))).bind fun m => if m = true then some (((num (b.take 8) : Nat) : Int), ((num ((b.drop 8).take 8) : Nat) : Int), ((num ((b.drop 16).take 8) : Nat) : Int), ((num ((b.drop 24).take 1) : Nat) : Int), txt hh, txt nn, wrap64 ((num ((b.drop 25).take 8) : Nat) : Int), wrap64 ((num ((b.drop 33).take 8) : Nat) : Int), (0 : Int)) else some ((0 : Int), (0 : Int), (0 : Int), (0 : Int), (⟨#[]⟩ : ByteArray), (⟨#[]⟩ : ByteArray), (0 : Int), (0 : Int), (4 : Int))) (fun k => by
        rw [if_pos rfl, if_pos rfl]
        simp only [hd]) ?_
      refine Ev.bind hm ?_
      cases hmay : mayP (rawP b hh nn) with
      | true =>
        have : mayB ((num (b.take 8) : Nat) : Int) ((num ((b.drop 8).take 8) : Nat) : Int) ((num ((b.drop 16).take 8) : Nat) : Int) ((num ((b.drop 24).take 1) : Nat) : Int) hh nn (wrap64 ((num ((b.drop 25).take 8) : Nat) : Int)) (wrap64 ((num ((b.drop 33).take 8) : Nat) : Int)) = true := hmay
        refine Ev.congr (fun k => if_pos this) (ev_eq (Ev.now _) ?_)
        simp only [hmay, if_true]
        rfl
      | false =>
        have : mayB ((num (b.take 8) : Nat) : Int) ((num ((b.drop 8).take 8) : Nat) : Int) ((num ((b.drop 16).take 8) : Nat) : Int) ((num ((b.drop 24).take 1) : Nat) : Int) hh nn (wrap64 ((num ((b.drop 25).take 8) : Nat) : Int)) (wrap64 ((num ((b.drop 33).take 8) : Nat) : Int)) = false := hmay
        refine Ev.congr (fun k => if_neg (by rw [this]; decide)) (ev_eq (Ev.now _) ?_)
        simp only [hmay]
        rfl
theorem getP_err {b : List Nat} {e : Int} (h : getP b = .error e) : e ≠ 0 := by
  unfold getP at h
  split at h
  · split at h
    · exact absurd h (by simp)
    · rw [← Except.error.inj h]; decide
  · rw [← Except.error.inj h]; decide
def joinG (acc : List PS) : Except Int (List PS) → Except Int (List PS)
  | .ok l => .ok (acc ++ l)
  | .error e => .error e
theorem wire_Get_l0 : ∀ (c : Nat) (r : List Nat) (acc : List PS), isB r → r.length = 75 * c → acc.length + c ≤ 1000 → Ev (fun k => wire_Get.l0 k (rowB r) (acc.map mkS)) (resG (joinG acc (getsP c r))) := by
  intro c
  induction c with
  | zero =>
    intro r acc hr hl ha
    refine Ev.step (f := fun _ => some (acc.map mkS, 0)) (fun k => by rw [wire_Get.l0, rowB_length, if_neg (by omega)]) (ev_eq (Ev.now _) ?_)
    simp [getsP, joinG, resG]
  | succ c ih =>
    intro r acc hr hl ha
    have hg := wire_get_ev (r.take 75) (isB_take hr 75) (by rw [List.length_take]; omega)
    refine Ev.step (f := fun k => (wire_get.f k (rowB (r.take 75))).bind fun bt260 => (if bt260.2.2.2.2.2.2.2.2 = 0 then (if (acc.map mkS).length < 1759218604441 then (wire_Get.l0 k (rowB (r.drop 75)) (acc.map mkS ++ [(⟨bt260.1, bt260.2.1, bt260.2.2.1, bt260.2.2.2.1, bt260.2.2.2.2.1, bt260.2.2.2.2.2.1, bt260.2.2.2.2.2.2.1, bt260.2.2.2.2.2.2.2.1⟩ : S77)])) else (none)) else (some (([] : List S77), bt260.2.2.2.2.2.2.2.2)))) (fun k => by rw [wire_Get.l0, rowB_length, if_pos (by omega), if_pos (by omega), rowB_take, rowB_drop]) ?_
    refine Ev.bind hg ?_
    rw [getsP]
    cases hp : getP (r.take 75) with
    | error e =>
      have he := getP_err hp
      exact Ev.congr (f := fun _ => some ([], e)) (fun k => if_neg he) (Ev.now _)
    | ok p =>
      have hi := ih (r.drop 75) (acc ++ [p]) (isB_drop hr 75) (by rw [List.length_drop]; omega) (by rw [List.length_append, List.length_singleton]; omega)
      refine Ev.congr (f := fun k => wire_Get.l0 k (rowB (r.drop 75)) ((acc ++ [p]).map mkS)) (fun k => ?_) (ev_eq hi ?_)
      · rw [List.map_append]
        exact (if_pos rfl).trans (if_pos (by rw [List.length_map]; omega))
      · simp only []
        cases getsP c (r.drop 75) with
        | error e => rfl
        | ok l => simp [joinG]
theorem wire_Get_ev (b : List Nat) (hb : isB b) (hl : b.length < 1000000000) : Ev (fun k => wire_Get.f k (rowB b)) (resG (wireGet b)) := by
  have j1 : ∀ x : Int, Ev (fun k => wire_Get.j0 k x (rowB (b.drop 6)) true) (resG (.error 3)) := fun x => Ev.step (f := fun _ => some ([], 3)) (fun k => by rw [wire_Get.j0, if_pos rfl]) (Ev.now _)
  unfold wireGet
  by_cases c0 : b.length < 6
  · rw [if_pos c0]
    exact Ev.congr (f := fun _ => some ([], 2)) (fun k => by rw [wire_Get.f, rowB_length, if_pos (by omega)]) (Ev.now _)
  rw [if_neg c0]
  have hg := pack_Get_ev b ((4 : Nat) : Int) 2 hb (by omega)
  rw [show cnt 2 = 2 from rfl, getR_in b 4 2 (by omega)] at hg
  have hn : num ((b.drop 4).take 2) < 65536 := by
    refine Nat.lt_of_lt_of_le (num_lt _ (isB_take (isB_drop hb 4) 2)) ?_
    exact Nat.le_trans (Nat.pow_le_pow_right (by decide) (List.length_take_le 2 _)) (by decide)
  generalize num ((b.drop 4).take 2) = n at hg hn ⊢
  have hs : ((strOfNums (rowB (b.take 4))).toList = ([83, 80, 65, 78] : List UInt8)) ↔ b.take 4 = spanHead := by
    rw [strOf_rowB, show ([83, 80, 65, 78] : List UInt8) = (txt spanHead).toList by rw [txt_toList]; rfl]
    exact txt_eq_iff (isB_take hb 4) (fun x hx => by simp [spanHead] at hx; omega)
  refine Ev.congr (f := fun k => (pack_Get.f k (rowB b) ((4 : Nat) : Int) 2).bind fun bt243 => (if b.take 4 = spanHead then (if bt243.1 = 0 then (wire_Get.j0 k bt243.1 (rowB (b.drop 6)) (bt243.1 == 0)) else (wire_Get.j0 k bt243.1 (rowB (b.drop 6)) (decide (bt243.1 > 32)))) else (wire_Get.j0 k bt243.1 (rowB (b.drop 6)) true))) (fun k => ?_) ?_
  · rw [wire_Get.f, rowB_length, if_neg (by omega)]
    refine congrArg (Option.bind (pack_Get.f k (rowB b) 4 2)) (funext fun bt => ?_)
    rw [if_pos (by omega), Option.bind_some, if_pos (by omega), Option.bind_some, rowB_drop, rowB_take]
    by_cases c : b.take 4 = spanHead
    · rw [if_pos c, if_pos (hs.2 c)]
    · rw [if_neg c, if_neg (fun h => c (hs.1 h))]
      rw [show ((strOfNums (rowB (b.take 4))).toList != ([83, 80, 65, 78] : List UInt8)) = true from bne_iff_ne.2 (fun h => c (hs.1 h))]
  refine Ev.bind hg ?_
  by_cases c1 : b.take 4 = spanHead
  case neg =>
    rw [if_pos c1]
    exact Ev.congr (fun k => if_neg c1) (j1 _)
  rw [if_neg (fun h => h c1)]
  by_cases c2 : n = 0
  · rw [if_pos c2]
    exact Ev.congr (fun k => by rw [if_pos c1, if_pos (by show ((n : Nat) : Int) = 0; omega), show (((n : Nat) : Int) == 0) = true by rw [beq_iff_eq]; omega]) (j1 _)
  rw [if_neg c2]
  by_cases c3 : 32 < n
  · rw [if_pos c3]
    exact Ev.congr (fun k => by rw [if_pos c1, if_neg (by show ¬ ((n : Nat) : Int) = 0; omega), decide_eq_true (by show ((n : Nat) : Int) > 32; omega)]) (j1 _)
  rw [if_neg c3]
  refine Ev.congr (f := fun k => wire_Get.j0 k (n : Int) (rowB (b.drop 6)) false) (fun k => by rw [if_pos c1, if_neg (by show ¬ ((n : Nat) : Int) = 0; omega), decide_eq_false (by show ¬ ((n : Nat) : Int) > 32; omega)]) ?_
  have hw1 : wrap64 (n : Int) = (n : Int) := w64_ _ (by omega) (by omega)
  have hw : wrap64 (wrap64 (n : Int) * 75) = ((75 * n : Nat) : Int) := by rw [hw1, w64_ _ (by omega) (by omega)]; omega
  by_cases c4 : b.length < 6 + 75 * n
  · rw [if_pos c4]
    exact Ev.step (f := fun _ => some ([], 2)) (fun k => by rw [wire_Get.j0, if_neg (by decide), rowB_length, hw, List.length_drop, if_pos (by omega)]) (Ev.now _)
  rw [if_neg c4]
  by_cases c5 : 6 + 75 * n < b.length
  · rw [if_pos c5]
    exact Ev.step (f := fun _ => some ([], 3)) (fun k => by rw [wire_Get.j0, if_neg (by decide), rowB_length, hw, List.length_drop, if_neg (by omega), if_pos (by omega)]) (Ev.now _)
  rw [if_neg c5]
  have hl0 := wire_Get_l0 n (b.drop 6) [] (isB_drop hb 6) (by rw [List.length_drop]; omega) (by simp; omega)
  refine Ev.step (f := fun k => wire_Get.l0 k (rowB (b.drop 6)) (([] : List PS).map mkS)) (fun k => by rw [wire_Get.j0, if_neg (by decide), rowB_length, hw, List.length_drop, if_neg (by omega), if_neg (by omega)]; rfl) (ev_eq hl0 ?_)
  cases getsP n (b.drop 6) with
  | error e => rfl
  | ok l => rfl
end
section
open Go.RowKit Go.Proofs.YtdpodjgggicaoaaW.PrintWords Go.Proofs.YtdpodjgggicaoaaW.PrintLast Go.Proofs.YtdpodjgggicaoaaW.PrintMore Go.Proofs.Ytdpodjgggicaoaa.H
def greatP (l : List PS) : Bool := decide (60 < l.length) || l.any fun p => decide (100 < p.h.length) || decide (100 < p.n.length)
theorem great_l0 (l : List PS) (hl : l.length ≤ 60) : ∀ (d i : Nat), i + d = l.length → Ev (fun k => merkhetlaw04_Great.l0 k (l.map mkS) (l.length : Int) (i : Int)) ((l.drop i).any fun p => decide (100 < p.h.length) || decide (100 < p.n.length)) := by
  intro d
  induction d with
  | zero =>
    intro i hi
    rw [List.drop_of_length_le (by omega)]
    exact Ev.step (f := fun _ => some false) (fun k => by rw [merkhetlaw04_Great.l0, if_neg (by omega)]) (Ev.now _)
  | succ d ih =>
    intro i hi
    have hil : i < l.length := by omega
    have e : wrap64 ((i : Int) + 1) = ((i + 1 : Nat) : Int) := w64_ _ (by omega) (by omega)
    have e4 : (((mkS l[i]).f4).size : Int) = (l[i].h.length : Int) := by show ((txt l[i].h).size : Int) = _; rw [txt_size]
    have e5 : (((mkS l[i]).f5).size : Int) = (l[i].n.length : Int) := by show ((txt l[i].n).size : Int) = _; rw [txt_size]
    rw [List.drop_eq_getElem_cons hil, List.any_cons]
    by_cases c1 : (l[i].h.length : Int) > 100
    · rw [decide_eq_true (show 100 < l[i].h.length by omega), Bool.true_or, Bool.true_or]
      exact Ev.step (f := fun _ => some true) (fun k => by rw [merkhetlaw04_Great.l0, if_pos (by omega), if_pos (by omega), if_pos (by rw [List.length_map]; omega), rd_mkS l i hil, e4, if_pos c1]) (Ev.now _)
    · rw [decide_eq_false (show ¬ 100 < l[i].h.length by omega), Bool.false_or]
      by_cases c2 : (l[i].n.length : Int) > 100
      · rw [decide_eq_true (show 100 < l[i].n.length by omega), Bool.true_or]
        exact Ev.step (f := fun _ => some true) (fun k => by rw [merkhetlaw04_Great.l0, if_pos (by omega), if_pos (by omega), if_pos (by rw [List.length_map]; omega), rd_mkS l i hil, e4, if_neg c1, e5, if_pos c2]) (Ev.now _)
      · rw [decide_eq_false (show ¬ 100 < l[i].n.length by omega), Bool.false_or]
        exact Ev.step (f := fun k => merkhetlaw04_Great.l0 k (l.map mkS) (l.length : Int) ((i + 1 : Nat) : Int)) (fun k => by rw [merkhetlaw04_Great.l0, if_pos (by omega), if_pos (by omega), if_pos (by rw [List.length_map]; omega), rd_mkS l i hil, e4, if_neg c1, e5, if_neg c2, e]) (ih (i + 1) (by omega))
theorem great_ev (l : List PS) : Ev (fun k => merkhetlaw04_Great.f k (l.map mkS)) (greatP l) := by
  unfold greatP
  by_cases h : (l.length : Int) > 60
  · rw [decide_eq_true (show 60 < l.length by omega), Bool.true_or]
    exact Ev.congr (f := fun _ => some true) (fun k => by rw [merkhetlaw04_Great.f, List.length_map, if_pos h]) (Ev.now _)
  · rw [decide_eq_false (show ¬ 60 < l.length by omega), Bool.false_or]
    have := great_l0 l (by omega) l.length 0 (by omega)
    rw [List.drop_zero] at this
    exact Ev.congr (f := fun k => merkhetlaw04_Great.l0 k (l.map mkS) (l.length : Int) ((0 : Nat) : Int)) (fun k => by rw [merkhetlaw04_Great.f, List.length_map, if_neg h]; rfl) this
theorem great_small {l : List PS} (h : greatP l = false) : l.length ≤ 60 ∧ ∀ p ∈ l, p.h.length ≤ 100 ∧ p.n.length ≤ 100 := by
  unfold greatP at h
  rw [Bool.or_eq_false_iff] at h
  refine ⟨by have := h.1; simp at this; exact this, fun p hp => ?_⟩
  have h2 := List.any_eq_false.1 h.2 p hp
  simp at h2
  exact h2
end
section
open Go.RowKit Go.Proofs.YtdpodjgggicaoaaW.PrintWords Go.Proofs.YtdpodjgggicaoaaW.PrintLast Go.Proofs.YtdpodjgggicaoaaW.PrintMore Go.Proofs.Ytdpodjgggicaoaa.H
theorem w64f (x : Int) (h0 : 0 ≤ x) (h1 : x ≤ 9223372036854775807) : wrap64 x = x := by unfold wrap64; omega
theorem ev_eqf {α : Type} {g : Nat → Option α} {r r' : α} (h : Ev g r) (e : r = r') : Ev g r' := e ▸ h
theorem frame_sum_nat (b : List Nat) (hb : isB b) (hl : b.length < 65536) : frame_sum.f (rowB b) = some ((fsum b : Nat) : Int) := by
  have e : IntKind.u64.wrap ((rowB b).length : Int) = ((b.length : Nat) : Int) := by rw [wu64, rowB_length]; omega
  have h1 := check_Sum_nat (nb 2 b.length) (nb_isB _ _)
  have h2 := check_More_nat (sumFrom 0 (nb 2 b.length)) b (sumFrom_small _ _ (by decide) (nb_isB _ _)) hb
  have hp := pack_Put_nat [] b.length 2 (by decide)
  rw [show (rowB [] : List Int) = [] from rfl, List.nil_append, show cnt 2 = 2 from rfl] at hp
  unfold frame_sum.f
  rw [e, hp, Option.bind_some, show rowB (nb 2 b.length) = (nb 2 b.length).map (fun n : Nat => (n : Int)) from rfl, h1, Option.bind_some, show rowB b = b.map (fun n : Nat => (n : Int)) from rfl, h2, Option.bind_some, ← sumFrom_append]
  rfl
end
section
open Go.RowKit Go.Proofs.YtdpodjgggicaoaaW.PrintWords Go.Proofs.YtdpodjgggicaoaaW.PrintLast Go.Proofs.YtdpodjgggicaoaaW.PrintMore Go.Proofs.Ytdpodjgggicaoaa.H
theorem frame_Put_ev (b : List Nat) (hb : isB b) : Ev (fun k => frame_Put.f k (rowB b)) (rowB (framePut b).1, (framePut b).2) := by
  have jt : Ev (fun k => frame_Put.j0 k (rowB b) true) (([] : List Int), (1 : Int)) := Ev.step (f := fun _ => some ([], 1)) (fun k => by rw [frame_Put.j0, if_pos rfl]) (Ev.now _)
  unfold framePut
  by_cases c1 : (b.length : Int) < 1
  · rw [if_neg (by omega)]
    exact Ev.congr (f := fun k => frame_Put.j0 k (rowB b) true) (fun k => by rw [frame_Put.f, rowB_length, if_pos c1]) jt
  by_cases c2 : (b.length : Int) > 2406
  · rw [if_neg (by omega)]
    exact Ev.congr (f := fun k => frame_Put.j0 k (rowB b) true) (fun k => by rw [frame_Put.f, rowB_length, if_neg c1, decide_eq_true c2]) jt
  rw [if_pos ⟨by omega, by omega⟩]
  refine Ev.congr (f := fun k => frame_Put.j0 k (rowB b) false) (fun k => by rw [frame_Put.f, rowB_length, if_neg c1, decide_eq_false c2]) ?_
  have e : IntKind.u64.wrap ((rowB b).length : Int) = ((b.length : Nat) : Int) := by rw [wu64, rowB_length]; omega
  have es : IntKind.u64.wrap ((fsum b : Nat) : Int) = ((fsum b : Nat) : Int) := by have := fsum_lt b hb; rw [wu64]; omega
  have hp := pack_Put_nat [] b.length 2 (by decide)
  rw [show (rowB [] : List Int) = [] from rfl, List.nil_append, show cnt 2 = 2 from rfl] at hp
  refine Ev.step (f := fun _ => some (rowB (nb 2 b.length ++ nb 4 (fsum b) ++ b), 0)) (fun k => ?_) (Ev.now _)
  rw [frame_Put.j0, if_neg (by decide), e, hp, Option.bind_some, frame_sum_nat b hb (by omega), Option.bind_some, es, pack_Put_nat _ _ _ (by rw [nb_length]; decide), Option.bind_some, show cnt 4 = 4 from rfl, rowB_length, rowB_length, if_pos (by simp only [List.length_append, nb_length]; omega), ← rowB_append]
end
section
open Go.RowKit Go.Proofs.YtdpodjgggicaoaaW.PrintWords Go.Proofs.YtdpodjgggicaoaaW.PrintLast Go.Proofs.YtdpodjgggicaoaaW.PrintMore Go.Proofs.Ytdpodjgggicaoaa.H
theorem pack_Get_evf (b : List Nat) (at_ size : Int) (hb : isB b) (hl : b.length < 4611686018427387904) : Ev (fun k => pack_Get.f k (rowB b) at_ size) (getR b at_ (cnt size)) := ⟨9, fun k hk => pack_Get_nat k hk b at_ size hb hl⟩
theorem fr_wraps (L p n : Nat) (h : p + 6 ≤ L) (hL : L < 1000000000) (hn : n < 65536) :
    wrap64 ((L : Int) - (p : Int)) = ((L - p : Nat) : Int) ∧ wrap64 (((L - p : Nat) : Int) - 6) = ((L - p : Nat) : Int) - 6 ∧ wrap64 (n : Int) = (n : Int) ∧ wrap64 ((p : Int) + 6) = ((p + 6 : Nat) : Int) ∧ wrap64 (((p + 6 : Nat) : Int) + (n : Int)) = ((p + 6 + n : Nat) : Int) := by
  refine ⟨?_, ?_, ?_, ?_, ?_⟩ <;> unfold wrap64 <;> omega
theorem frame_Get_ev (b : List Nat) (at_ : Int) (hb : isB b) (hl : b.length < 1000000000) : Ev (fun k => frame_Get.f k (rowB b) at_) (rowB (frameGet b at_).1, (frameGet b at_).2) := by
  have jt : Ev (fun k => frame_Get.j0 k (rowB b) at_ true) (([] : List Int), (0 : Int), (5 : Int)) := Ev.step (f := fun _ => some ([], 0, 5)) (fun k => by rw [frame_Get.j0, if_pos rfl]) (Ev.now _)
  unfold frameGet
  by_cases c1 : at_ < 0
  · rw [if_pos (Or.inl c1)]
    exact Ev.congr (f := fun k => frame_Get.j0 k (rowB b) at_ true) (fun k => by rw [frame_Get.f, if_pos c1]) jt
  by_cases c2 : at_ ≥ (b.length : Int)
  · rw [if_pos (Or.inr c2)]
    exact Ev.congr (f := fun k => frame_Get.j0 k (rowB b) at_ true) (fun k => by rw [frame_Get.f, if_neg c1, rowB_length, decide_eq_true c2]) jt
  rw [if_neg (by omega)]
  refine Ev.congr (f := fun k => frame_Get.j0 k (rowB b) at_ false) (fun k => by rw [frame_Get.f, if_neg c1, rowB_length, decide_eq_false c2]) ?_
  obtain ⟨p, rfl⟩ := Int.eq_ofNat_of_zero_le (show 0 ≤ at_ by omega)
  rw [Int.toNat_natCast]
  have hs := isB_drop hb p
  have hsl : (b.drop p).length = b.length - p := List.length_drop
  have hw2 : wrap64 ((p : Int) + 2) = ((p + 2 : Nat) : Int) := by rw [w64f _ (by omega) (by omega)]; omega
  have g2 := pack_Get_evf b (p : Int) 2 hb (by omega)
  have g4 := pack_Get_evf b ((p + 2 : Nat) : Int) 4 hb (by omega)
  rw [show cnt 2 = 2 from rfl] at g2
  rw [show cnt 4 = 4 from rfl] at g4
  refine Ev.step (f := fun k => (pack_Get.f k (rowB b) (p : Int) 2).bind fun bt138 => ((pack_Get.f k (rowB b) ((p + 2 : Nat) : Int) 4).bind fun bt140 => (if bt140.2 = true then (if bt138.1 = 0 then (frame_Get.j1 k (rowB b) (p : Int) bt138.1 bt140.1 true) else (frame_Get.j1 k (rowB b) (p : Int) bt138.1 bt140.1 (decide (bt138.1 > 2406)))) else (some (([] : List Int), 0, 2))))) (fun k => by rw [frame_Get.j0, if_neg (by decide), hw2]) ?_
  refine Ev.bind g2 (Ev.bind g4 ?_)
  unfold frameAt
  by_cases c3 : (b.drop p).length < 6
  · rw [if_pos c3]
    have : (getR b ((p + 2 : Nat) : Int) 4).2 = false := by unfold getR getN; rw [if_neg (by omega)]
    exact Ev.congr (f := fun _ => some ([], 0, 2)) (fun k => if_neg (by rw [this]; decide)) (Ev.now _)
  rw [if_neg c3]
  have r2 : getR b (p : Int) 2 = (((num ((b.drop p).take 2) : Nat) : Int), true) := by unfold getR getN; rw [if_pos (by omega), Int.toNat_natCast]
  have r4 : getR b ((p + 2 : Nat) : Int) 4 = (((num (((b.drop p).drop 2).take 4) : Nat) : Int), true) := by unfold getR getN; rw [if_pos (by omega), Int.toNat_natCast, List.drop_drop]
  rw [r2, r4]
  have hn : num ((b.drop p).take 2) < 65536 := by
    refine Nat.lt_of_lt_of_le (num_lt _ (isB_take hs 2)) ?_
    exact Nat.le_trans (Nat.pow_le_pow_right (by decide) (List.length_take_le 2 _)) (by decide)
  have ht : (b.take (p + 6 + num ((b.drop p).take 2))).drop (p + 6) = ((b.drop p).drop 6).take (num ((b.drop p).take 2)) := by
    rw [List.drop_take, List.drop_drop]; congr 1; omega
  generalize hnn : num ((b.drop p).take 2) = n at hn ht ⊢
  generalize num (((b.drop p).drop 2).take 4) = own
  have jf : Ev (fun k => frame_Get.j1 k (rowB b) (p : Int) (n : Int) (own : Int) true) (([] : List Int), (0 : Int), (3 : Int)) := Ev.step (f := fun _ => some ([], 0, 3)) (fun k => by rw [frame_Get.j1, if_pos rfl]) (Ev.now _)
  by_cases c4 : n = 0
  · rw [if_pos c4]
    exact Ev.congr (f := fun k => frame_Get.j1 k (rowB b) (p : Int) (n : Int) (own : Int) true) (fun k => (if_pos rfl).trans (if_pos (by show ((n : Nat) : Int) = 0; omega))) jf
  rw [if_neg c4]
  by_cases c5 : 2406 < n
  · rw [if_pos c5]
    exact Ev.congr (f := fun k => frame_Get.j1 k (rowB b) (p : Int) (n : Int) (own : Int) true) (fun k => (if_pos rfl).trans ((if_neg (by show ¬ ((n : Nat) : Int) = 0; omega)).trans (by rw [decide_eq_true (by show ((n : Nat) : Int) > 2406; omega)]))) jf
  rw [if_neg c5]
  refine Ev.congr (f := fun k => frame_Get.j1 k (rowB b) (p : Int) (n : Int) (own : Int) false) (fun k => (if_pos rfl).trans ((if_neg (by show ¬ ((n : Nat) : Int) = 0; omega)).trans (by rw [decide_eq_false (by show ¬ ((n : Nat) : Int) > 2406; omega)]))) ?_
  have E := Aside0.mk (fr_wraps b.length p n (by omega) (by omega) (by omega))
  by_cases c6 : (b.drop p).length < 6 + n
  · rw [if_pos c6]
    exact Ev.step (f := fun _ => some ([], 0, 2)) (fun k => by rw [frame_Get.j1, if_neg (by decide), rowB_length, E.out.1, E.out.2.1, E.out.2.2.1, if_pos (by omega)]) (Ev.now _)
  rw [if_neg c6]
  have hbl : (((b.drop p).drop 6).take n).length = n := by rw [List.length_take, List.length_drop]; omega
  have hbB : isB (((b.drop p).drop 6).take n) := isB_take (isB_drop hs 6) n
  have es : IntKind.u64.wrap ((fsum (((b.drop p).drop 6).take n) : Nat) : Int) = ((fsum (((b.drop p).drop 6).take n) : Nat) : Int) := by have := fsum_lt _ hbB; rw [wu64]; omega
  have hstep : ∀ k, frame_Get.j1 (k + 1) (rowB b) (p : Int) (n : Int) (own : Int) false = if ((own : Nat) : Int) = ((fsum (((b.drop p).drop 6).take n) : Nat) : Int) then some (rowB (((b.drop p).drop 6).take n), ((p + 6 + n : Nat) : Int), 0) else some ([], 0, 8) := fun k => by
    rw [frame_Get.j1, if_neg (by decide), rowB_length, E.out.1, E.out.2.1, E.out.2.2.1, if_neg (by omega), E.out.2.2.2.1, if_pos (by omega), E.out.2.2.2.2, if_pos (by omega), if_pos (by omega), Int.toNat_natCast, Int.toNat_natCast, rowB_take, rowB_drop, ht, clone_nat _ (by omega), Option.bind_some, frame_sum_nat _ hbB (by omega), Option.bind_some, es]
  by_cases c7 : own ≠ fsum (((b.drop p).drop 6).take n)
  · rw [if_pos c7]
    exact Ev.step (f := fun _ => some ([], 0, 8)) (fun k => by rw [hstep, if_neg (by omega)]) (Ev.now _)
  · rw [if_neg c7]
    refine Ev.step (f := fun _ => some (rowB (((b.drop p).drop 6).take n), ((p + 6 + n : Nat) : Int), 0)) (fun k => by rw [hstep, if_pos (by omega)]) (ev_eqf (Ev.now _) ?_)
    simp only [hbl]
    congr 2
end
section
open Go.RowKit Go.Proofs.YtdpodjgggicaoaaW.PrintWords Go.Proofs.YtdpodjgggicaoaaW.PrintLast Go.Proofs.YtdpodjgggicaoaaW.PrintMore Go.Proofs.Ytdpodjgggicaoaa.H
theorem head_may_nat (n keep : Int) : segment_head_may.f n keep = some (decide (1 ≤ keep ∧ keep ≤ 16)) := by
  unfold segment_head_may.f
  by_cases h : keep ≥ 1
  · rw [if_pos h]
    by_cases h2 : keep ≤ 16
    · rw [decide_eq_true h2, decide_eq_true ⟨h, h2⟩]
    · rw [decide_eq_false h2, decide_eq_false (fun x => h2 x.2)]
  · rw [if_neg h, decide_eq_false (fun x => h x.1)]
theorem segment_Head_nat (n : Nat) (hn : n < 4294967296) (keep : Int) : segment_Head.f (n : Int) keep = some (rowB (segPut n keep).1, (segPut n keep).2) := by
  unfold segment_Head.f segPut
  rw [head_may_nat, Option.bind_some]
  by_cases h : 1 ≤ keep ∧ keep ≤ 16
  · rw [decide_eq_true h, if_pos rfl, if_pos h]
    obtain ⟨q, rfl⟩ := Int.eq_ofNat_of_zero_le (show 0 ≤ keep by omega)
    have w1 : IntKind.u64.wrap (n : Int) = (n : Int) := by rw [wu64]; omega
    have w2 : IntKind.u64.wrap (q : Int) = (q : Int) := by rw [wu64]; omega
    have hs : sumFrom 0 (segBody n q) < 4294967296 := sumFrom_small _ _ (by decide) (segBody_isB n q)
    have w3 : IntKind.u64.wrap ((sumFrom 0 (segBody n q) : Nat) : Int) = ((sumFrom 0 (segBody n q) : Nat) : Int) := by rw [wu64]; omega
    have p1 := pack_Put_nat segLetters n 4 (by decide)
    have p2 := pack_Put_nat (segLetters ++ nb 4 n) q 2 (by rw [List.length_append, nb_length]; decide)
    have p3 := check_Sum_nat (segBody n q) (segBody_isB n q)
    have p4 := pack_Put_nat (segBody n q) (sumFrom 0 (segBody n q)) 4 (by rw [segBody_length]; decide)
    rw [show cnt 4 = 4 from rfl] at p1 p4
    rw [show cnt 2 = 2 from rfl] at p2
    rw [w1, w2, show ([83, 69, 71, 49] : List Int) = rowB segLetters from rfl, p1, Option.bind_some, p2, Option.bind_some, show rowB (segLetters ++ nb 4 n ++ nb 2 q) = (segBody n q).map (fun n : Nat => (n : Int)) from rfl, p3, Option.bind_some, w3, show (segBody n q).map (fun n : Nat => (n : Int)) = rowB (segBody n q) from rfl, p4, Option.bind_some]
    rfl
  · rw [decide_eq_false h, if_neg (by decide), if_neg h]
    rfl
theorem getR_at (b : List Nat) (p k : Nat) (h : p + k ≤ b.length) : getR b (p : Int) k = (((num ((b.drop p).take k) : Nat) : Int), true) := by
  unfold getR getN
  rw [if_pos (by omega), Int.toNat_natCast]
theorem letters_iff (b : List Nat) (hb : isB b) : ((strOfNums ((rowB b).take 4)).toList = ([83, 69, 71, 49] : List UInt8)) ↔ b.take 4 = segLetters := by
  rw [rowB_take, strOf_rowB, txt_toList, show ([83, 69, 71, 49] : List UInt8) = segLetters.map UInt8.ofNat from rfl]
  exact ⟨fun h => u8_inj (isB_take hb 4) segLetters_isB h, fun h => by rw [h]⟩
theorem segment_begin_ev (b : List Nat) (hb : isB b) (hl : b.length < 1000000000) : Ev (fun k => segment_begin.f k (rowB b)) ((segBegin b).1, (segBegin b).2.1, rowB (segBegin b).2.2.1, (segBegin b).2.2.2) := by
  unfold segBegin segment_begin.f
  by_cases c0 : b.length < 14
  · rw [if_pos c0]
    exact Ev.congr (fun k => if_pos (by rw [rowB_length]; omega)) (Ev.now _)
  rw [if_neg c0]
  have g1 : Ev (fun k => pack_Get.f k (rowB b) 4 4) (((num ((b.drop 4).take 4) : Nat) : Int), true) := ev_eqf (pack_Get_evf b 4 4 hb (by omega)) (getR_at b 4 4 (by omega))
  have g2 : Ev (fun k => pack_Get.f k (rowB b) 8 2) (((num ((b.drop 8).take 2) : Nat) : Int), true) := ev_eqf (pack_Get_evf b 8 2 hb (by omega)) (getR_at b 8 2 (by omega))
  have g3 : Ev (fun k => pack_Get.f k (rowB b) 10 4) (((num ((b.drop 10).take 4) : Nat) : Int), true) := ev_eqf (pack_Get_evf b 10 4 hb (by omega)) (getR_at b 10 4 (by omega))
  refine Ev.congr (fun k => if_neg (by rw [rowB_length]; omega)) (Ev.bind g1 (Ev.bind g2 (Ev.bind g3 ?_)))
  have k4 : (4 : Int) ≤ ((rowB b).length : Int) := by rw [rowB_length]; omega
  have k10 : (10 : Int) ≤ ((rowB b).length : Int) := by rw [rowB_length]; omega
  by_cases c1 : b.take 4 = segLetters
  · have c1' := (letters_iff b hb).2 c1
    rw [if_neg (not_not_intro c1)]
    have hsum : check_Sum.f ((rowB b).take 10) = some ((sumFrom 0 (b.take 10) : Nat) : Int) := by rw [rowB_take]; exact check_Sum_nat (b.take 10) (isB_take hb 10)
    have hs : sumFrom 0 (b.take 10) < 4294967296 := sumFrom_small _ _ (by decide) (isB_take hb 10)
    have w3 : IntKind.u64.wrap ((sumFrom 0 (b.take 10) : Nat) : Int) = ((sumFrom 0 (b.take 10) : Nat) : Int) := by rw [wu64]; omega
    have n4 : num ((b.drop 4).take 4) < 4294967296 := by
      refine Nat.lt_of_lt_of_le (num_lt _ (isB_take (isB_drop hb 4) 4)) (Nat.le_trans (Nat.pow_le_pow_right (by decide) (List.length_take_le 4 _)) (by decide))
    have n2 : num ((b.drop 8).take 2) < 65536 := by
      refine Nat.lt_of_lt_of_le (num_lt _ (isB_take (isB_drop hb 8) 2)) (Nat.le_trans (Nat.pow_le_pow_right (by decide) (List.length_take_le 2 _)) (by decide))
    generalize num ((b.drop 4).take 4) = x4 at *
    generalize num ((b.drop 8).take 2) = x8 at *
    generalize num ((b.drop 10).take 4) = x10 at *
    generalize sumFrom 0 (b.take 10) = sm at *
    have m4 : (x4 : Int) % 4294967296 = (x4 : Int) := by omega
    have m8 : wrap64 (x8 : Int) = (x8 : Int) := w64f _ (by omega) (by omega)
    by_cases c2 : x10 = sm
    · have c2' : (x10 : Int) = IntKind.u64.wrap ((sm : Nat) : Int) := by rw [w3, c2]
      rw [if_neg (not_not_intro c2)]
      by_cases c3 : 1 ≤ x8 ∧ x8 ≤ 16
      · rw [if_pos c3]
        refine Ev.congr (fun k => ?_) (Ev.now _)
        simp only []
        rw [if_pos k4, if_pos c1', if_pos k10, hsum, Option.bind_some, if_pos c2', m4, m8, head_may_nat, Option.bind_some, decide_eq_true (show (1 : Int) ≤ (x8 : Int) ∧ (x8 : Int) ≤ 16 by omega), if_pos rfl]
      · rw [if_neg c3]
        refine Ev.congr (fun k => ?_) (Ev.now _)
        simp only []
        rw [if_pos k4, if_pos c1', if_pos k10, hsum, Option.bind_some, if_pos c2', m4, m8, head_may_nat, Option.bind_some, decide_eq_false (show ¬ ((1 : Int) ≤ (x8 : Int) ∧ (x8 : Int) ≤ 16) by omega), if_neg (by decide)]
        rfl
    · have c2' : ¬ (x10 : Int) = IntKind.u64.wrap ((sm : Nat) : Int) := by rw [w3]; omega
      rw [if_pos c2]
      refine Ev.congr (fun k => ?_) (Ev.now _)
      simp only []
      rw [if_pos k4, if_pos c1', if_pos k10, hsum, Option.bind_some, if_neg c2']
      rfl
  · have c1' := fun h => c1 ((letters_iff b hb).1 h)
    rw [if_pos c1]
    exact Ev.congr (fun k => (if_pos k4).trans (if_neg c1')) (Ev.now _)
theorem segBegin_keep (b : List Nat) (h : (segBegin b).2.2.2 = 0) : 1 ≤ (segBegin b).2.1 ∧ (segBegin b).2.1 ≤ 16 ∧ (segBegin b).2.2.1 = b ∧ 14 ≤ b.length := by
  unfold segBegin at h ⊢
  split
  · rename_i c; rw [if_pos c] at h; exact absurd h (by decide)
  · rename_i c0; rw [if_neg c0] at h
    split
    · rename_i c; rw [if_pos c] at h; exact absurd h (by decide)
    · rename_i c; rw [if_neg c] at h
      split
      · rename_i c; rw [if_pos c] at h; exact absurd h (by decide)
      · rename_i c; rw [if_neg c] at h
        split
        · rename_i c; exact ⟨by have := c.1; simp only []; omega, by have := c.2; simp only []; omega, rfl, by omega⟩
        · rename_i c; rw [if_neg c] at h; exact absurd h (by simp)
theorem segment_Read_14 (b : List Nat) (hb : isB b) (hl : b.length ≤ 14) : Ev (fun k => segment_Read.f k (rowB b)) (seg14 b) := by
  unfold segment_Read.f seg14
  refine Ev.bind (segment_begin_ev b hb (by omega)) ?_
  by_cases h : (segBegin b).2.2.2 = 0
  · obtain ⟨h1, h2, h3, h4⟩ := segBegin_keep b h
    rw [if_pos h]
    have fg := frame_Get_ev b 14 hb (by omega)
    have e : frameGet b 14 = ([], 0, 5) := by unfold frameGet; rw [if_pos (Or.inr (by omega))]
    rw [e] at fg
    refine Ev.congr (f := fun k => segment_Read.l0 k (segBegin b).1 (segBegin b).2.1 (rowB b) (segBegin b).1 (segBegin b).2.1 [] 14 false) (fun k => by simp only []; rw [if_pos h, h3]) ?_
    generalize (segBegin b).1 = x at *
    generalize (segBegin b).2.1 = y at *
    refine Ev.step (f := fun k => (frame_Get.f k (rowB b) 14).bind fun bt217 => (if bt217.2.2 = 0 then ((wire_Get.f k bt217.1).bind fun bt222 => (if bt222.2 = 0 then (segment_Read.l0 k x y (rowB b) x y ([] ++ [bt217.1]) bt217.2.1 false) else (some (x, y, [], 14, ((0 : Int) == y), 0)))) else (some (x, y, [], 14, ((0 : Int) == y), 0)))) (fun k => by rw [segment_Read.l0, if_pos (show (([] : List (List Int)).length : Int) < y by rw [List.length_nil]; omega)]; rfl) ?_
    refine Ev.bind fg ?_
    have hy : ((0 : Int) == y) = false := by rw [beq_eq_false_iff_ne]; omega
    rw [← hy]
    exact Ev.congr (fun k => if_neg (by decide)) (Ev.now _)
  · rw [if_neg h]
    exact Ev.congr (fun k => if_neg h) (Ev.now _)
end
section
open Go.RowKit Go.Proofs.YtdpodjgggicaoaaW.PrintWords Go.Proofs.YtdpodjgggicaoaaW.PrintLast Go.Proofs.YtdpodjgggicaoaaW.PrintMore Go.Proofs.Ytdpodjgggicaoaa.H
theorem segment_Read_rows (b : List Nat) (hb : isB b) (hl : b.length < 1000000000) (a : Int) (keep : Nat) (hk : keep ≤ 16) : ∀ (c : Nat) (acc : List (List Nat)) (p : Nat), acc.length + c = keep → p ≤ b.length + 6 →
    Ev (fun k => segment_Read.l0 k a (keep : Int) (rowB b) a (keep : Int) (acc.map rowB) (p : Int) false) (a, (keep : Int), (acc ++ (segRows c b p).1).map rowB, ((segRows c b p).2 : Int), (((acc ++ (segRows c b p).1).length : Int) == (keep : Int)), 0) := by
  intro c
  induction c with
  | zero =>
    intro acc p h hp
    refine Ev.step (f := fun _ => some (a, (keep : Int), acc.map rowB, (p : Int), (((acc.map rowB).length : Int) == (keep : Int)), 0)) (fun k => by rw [segment_Read.l0, if_neg (by rw [List.length_map]; omega)]) ?_
    refine ev_eqf (Ev.now _) ?_
    simp only [segRows, List.append_nil, List.length_map]
  | succ c ih =>
    intro acc p h hp
    have hlt : ((acc.map rowB).length : Int) < (keep : Int) := by rw [List.length_map]; omega
    have hlim : (acc.map rowB).length < 5864062014805 := by rw [List.length_map]; omega
    have fg := frame_Get_ev b (p : Int) hb hl
    have stop : Ev (fun _ : Nat => some (a, (keep : Int), acc.map rowB, (p : Int), (((acc.map rowB).length : Int) == (keep : Int)), (0 : Int))) (a, (keep : Int), (acc ++ ([] : List (List Nat))).map rowB, (p : Int), (((acc ++ ([] : List (List Nat))).length : Int) == (keep : Int)), (0 : Int)) := ev_eqf (Ev.now _) (by simp only [List.append_nil, List.length_map])
    refine Ev.step (f := fun k => (frame_Get.f k (rowB b) (p : Int)).bind fun bt219 => (if bt219.2.2 = 0 then ((wire_Get.f k bt219.1).bind fun bt224 => (if bt224.2 = 0 then (segment_Read.l0 k a (keep : Int) (rowB b) a (keep : Int) ((acc.map rowB) ++ [bt219.1]) bt219.2.1 false) else (some (a, (keep : Int), acc.map rowB, (p : Int), (((acc.map rowB).length : Int) == (keep : Int)), 0)))) else (some (a, (keep : Int), acc.map rowB, (p : Int), (((acc.map rowB).length : Int) == (keep : Int)), 0)))) (fun k => by rw [segment_Read.l0, if_pos hlt]; simp only [if_pos hlim]) ?_
    refine Ev.bind fg ?_
    by_cases hp2 : b.length ≤ p
    · have e1 : frameGet b (p : Int) = ([], 0, 5) := by unfold frameGet; rw [if_pos (Or.inr (by omega))]
      have e2 : segRows (c + 1) b p = ([], p) := by
        rw [segRows, List.drop_eq_nil_of_le hp2]
        rfl
      rw [e1, e2]
      exact Ev.congr (fun k => if_neg (show ¬ ((5 : Int) = 0) by decide)) stop
    · cases hf : frameAt (b.drop p) with
      | error e =>
        have e1 : frameGet b (p : Int) = ([], 0, e) := by unfold frameGet; rw [if_neg (by omega), Int.toNat_natCast, hf]
        have e2 : segRows (c + 1) b p = ([], p) := by rw [segRows, hf]
        rw [e1, e2]
        exact Ev.congr (fun k => if_neg (show ¬ (e = 0) from frameAt_e0 hf)) stop
      | ok x =>
        have e1 : frameGet b (p : Int) = (x, (p : Int) + 6 + (x.length : Int), 0) := by unfold frameGet; rw [if_neg (by omega), Int.toNat_natCast, hf]
        obtain ⟨x1, x2, x3⟩ := frameAt_ok (isB_drop hb p) hf
        have hx : isB x := by
          unfold frameAt at hf
          split at hf
          · exact absurd hf (by simp)
          split at hf
          · exact absurd hf (by simp)
          split at hf
          · exact absurd hf (by simp)
          split at hf
          · exact absurd hf (by simp)
          split at hf
          · exact absurd hf (by simp)
          rw [← Except.ok.inj hf]
          exact isB_take (isB_drop (isB_drop hb p) 6) _
        rw [List.length_drop] at x3
        have wg := wire_Get_ev x hx (by omega)
        rw [e1]
        refine Ev.congr (fun k => if_pos rfl) (Ev.bind wg ?_)
        cases hw : wireGet x with
        | error e =>
          have e2 : segRows (c + 1) b p = ([], p) := by rw [segRows, hf]; simp only [hw]
          rw [e2]
          exact Ev.congr (fun k => if_neg (show ¬ (e = 0) from wireGet_e0 hw)) stop
        | ok l =>
          have e2 : segRows (c + 1) b p = (x :: (segRows c b (p + 6 + x.length)).1, (segRows c b (p + 6 + x.length)).2) := by rw [segRows, hf]; simp only [hw]
          rw [e2]
          have r := ih (acc ++ [x]) (p + 6 + x.length) (by rw [List.length_append]; simp only [List.length_cons, List.length_nil]; omega) (by omega)
          rw [List.append_assoc, List.map_append, show [x].map rowB = [rowB x] from rfl, show ((p + 6 + x.length : Nat) : Int) = (p : Int) + 6 + (x.length : Int) by omega] at r
          exact Ev.congr (fun k => if_pos rfl) r
theorem segment_Read_ev (b : List Nat) (hb : isB b) (hl : b.length < 1000000000) : Ev (fun k => segment_Read.f k (rowB b)) ((segRead b).1, (segRead b).2.1, (segRead b).2.2.1.map rowB, (segRead b).2.2.2.1, (segRead b).2.2.2.2.1, (segRead b).2.2.2.2.2) := by
  unfold segment_Read.f segRead
  refine Ev.bind (segment_begin_ev b hb hl) ?_
  by_cases h : (segBegin b).2.2.2 = 0
  · obtain ⟨h1, h2, h3, h4⟩ := segBegin_keep b h
    rw [if_pos h]
    refine Ev.congr (f := fun k => segment_Read.l0 k (segBegin b).1 (segBegin b).2.1 (rowB b) (segBegin b).1 (segBegin b).2.1 [] 14 false) (fun k => by simp only []; rw [if_pos h, h3]) ?_
    generalize (segBegin b).1 = x at *
    generalize (segBegin b).2.1 = y at *
    obtain ⟨q, rfl⟩ := Int.eq_ofNat_of_zero_le (show 0 ≤ y by omega)
    have r := segment_Read_rows b hb hl x q (by omega) q [] 14 (by simp) (by omega)
    rw [Int.toNat_natCast]
    exact r
  · rw [if_neg h]
    exact Ev.congr (fun k => if_neg h) (Ev.now _)
end
section
open Go.RowKit Go.Proofs.YtdpodjgggicaoaaW.PrintWords Go.Proofs.YtdpodjgggicaoaaW.PrintLast Go.Proofs.YtdpodjgggicaoaaW.PrintMore Go.Proofs.Ytdpodjgggicaoaa.H
theorem seg14_head (n k : Nat) (hn : n < 4294967296) (h1 : 1 ≤ k) (h2 : k ≤ 16) : seg14 (segHead n k) = ((n : Int), (k : Int), [], 14, false, 0) := by
  unfold seg14
  rw [segBegin_head n k hn h1 h2, if_pos rfl]
theorem law07_fixed_ev : Ev (fun k => merkhetlaw07_fixed.f k) true := by
  have h := segment_Head_nat 7 (by decide) 3
  have e : segPut 7 3 = (segHead 7 3, 0) := rfl
  rw [e] at h
  have r := segment_Read_14 (segHead 7 3) (segHead_isB 7 3) (by rw [segHead_length]; decide)
  rw [seg14_head 7 3 (by decide) (by decide) (by decide)] at r
  unfold merkhetlaw07_fixed.f
  have h' : Ev (fun _ : Nat => segment_Head.f 7 3) (rowB (segHead 7 3), (0 : Int)) := ⟨0, fun k _ => h⟩
  refine Ev.bind h' (Ev.bind r ?_)
  exact Ev.congr (fun k => if_pos ⟨⟨rfl, by rw [rowB_length, segHead_length]⟩, rfl, rfl, rfl, rfl, rfl, rfl⟩) (Ev.now _)
end
end Go.Proofs.Ytdpodjgggicaoaa.SO
