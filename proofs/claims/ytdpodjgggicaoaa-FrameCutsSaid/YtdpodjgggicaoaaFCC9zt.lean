/- Layers 2 to 6: what FrameCuts needs, in one text. -/
import Derived.Test.YtdpodjgggicaoaaH1t
import Derived.Test.YtdpodjgggicaoaaFCx1t
import Derived.Test.YtdpodjgggicaoaaH4t
import Derived.Laws.BitsAllLaws
import Derived.Test.YtdpodjgggicaoaaH9t
import Derived.Test.YtdpodjgggicaoaaFCx2t
import Derived.Test.YtdpodjgggicaoaaH36t
set_option linter.unusedVariables false
set_option linter.unusedSimpArgs false
namespace Go.Proofs.Ytdpodjgggicaoaa.FC
section
open Go.RowKit Go.Proofs.YtdpodjgggicaoaaW.PrintWords Go.Proofs.YtdpodjgggicaoaaW.PrintLast Go.Proofs.Ytdpodjgggicaoaa.H
theorem steps_round (n : Nat) (hn : n < 4294967296) (k : Nat) (i : Int) (hi : 0 ≤ i) (h8 : i < 8) :
    check_steps.l0 (k + 1) (n : Int) i = check_steps.l0 k ((cs n : Nat) : Int) (i + 1) := by
  have hw : wrap64 (i + 1) = i + 1 := by unfold wrap64; omega
  have ha : Go.bits .and .u32 (n : Int) 1 = ((n % 2 : Nat) : Int) := by
    have := u32_and_nat n 1 hn (by decide)
    rw [Nat.and_one_is_mod] at this; exact this
  simp only [check_steps.l0]
  rw [if_pos h8, ha, hw]
  unfold cs
  by_cases h1 : n % 2 = 1
  · rw [if_neg (by omega), if_pos h1]
    congr 1
    have := u32_xor_nat (n / 2) poly (by omega) (by decide)
    exact this
  · rw [if_pos (by omega), if_neg h1]
    rfl
theorem stepTab_nat (n : Nat) (hn : n < 4294967296) : stepTab (n : Int) = ((csn 8 n : Nat) : Int) := by
  have h : check_steps.f 9 (n : Int) = some ((csn 8 n : Nat) : Int) := by
    unfold check_steps.f
    have e : ∀ d : Nat, ∀ (m : Nat), m < 4294967296 → d ≤ 8 → check_steps.l0 (d + 1) (m : Int) (8 - (d : Int)) = some ((csn d m : Nat) : Int) := by
      intro d
      induction d with
      | zero => intro m _ _; simp [check_steps.l0, csn]
      | succ d ih =>
        intro m hm hd
        rw [steps_round m hm (d + 1) _ (by omega) (by omega)]
        have := ih (cs m) (cs_lt hm) (by omega)
        rw [show (8 : Int) - ((d + 1 : Nat) : Int) + 1 = 8 - (d : Int) by omega, this]
        rfl
    have := e 8 n hn (by omega)
    simpa using this
  simp [stepTab, h]
theorem more_step (c x : Nat) (hc : c < 4294967296) (hx : x < 256) :
    Go.bits .xor .u32 ((c : Int) / 256) (stepTab (Go.bits .xor .u8 ((c : Int) % 256) (x : Int))) = ((csn 8 (c ^^^ x) : Nat) : Int) := by
  have h1 : Go.bits .xor .u8 ((c : Int) % 256) (x : Int) = ((c % 256 ^^^ x : Nat) : Int) := u8_xor_nat (c % 256) x (by omega) hx
  have hlt : c % 256 ^^^ x < 256 := Nat.xor_lt_two_pow (n := 8) (by omega) (by omega)
  rw [h1, stepTab_nat _ (by omega)]
  have h2 := u32_xor_nat (c / 256) (csn 8 (c % 256 ^^^ x)) (by omega) (csn_lt 8 (by omega))
  rw [cs_byte] at h2
  exact h2
theorem more_fold (m : List Nat) : ∀ c : Nat, c < 4294967296 → (∀ x ∈ m, x < 256) →
    (m.map (fun n : Nat => (n : Int))).foldl (fun c x => Go.bits .xor .u32 (c / 256) (stepTab (Go.bits .xor .u8 (c % 256) x))) (c : Int) = ((crc c m : Nat) : Int) := by
  induction m with
  | nil => intro c _ _; rfl
  | cons x r ih =>
    intro c hc h
    have hx := h x (by simp)
    simp only [List.map_cons, List.foldl_cons]
    rw [more_step c x hc hx, ih _ (csn_lt 8 (Nat.xor_lt_two_pow (n := 32) hc (by omega))) (fun y hy => h y (by simp [hy]))]
    rfl
theorem check_More_nat (a : Nat) (m : List Nat) (ha : a < 4294967296) (hm : ∀ x ∈ m, x < 256) :
    check_More.f (a : Int) (m.map (fun n : Nat => (n : Int))) = some ((sumFrom a m : Nat) : Int) := by
  unfold check_More.f
  have h1 : Go.bits .xor .u32 4294967295 (a : Int) = ((ones ^^^ a : Nat) : Int) := u32_xor_nat 4294967295 a (by decide) ha
  have hl : ones ^^^ a < 4294967296 := Nat.xor_lt_two_pow (n := 32) (by decide) (by omega)
  rw [h1, more_fold m _ hl hm]
  exact congrArg some (u32_xor_nat 4294967295 _ (by decide) (crc_lt m (by omega) hm))
theorem check_Sum_nat (m : List Nat) (hm : ∀ x ∈ m, x < 256) : check_Sum.f (m.map (fun n : Nat => (n : Int))) = some ((sumFrom 0 m : Nat) : Int) := by
  unfold check_Sum.f
  have := check_More_nat 0 m (by decide) hm
  rw [show ((0 : Nat) : Int) = 0 from rfl] at this
  rw [this]; rfl
end
section
open Go.RowKit Go.Proofs.YtdpodjgggicaoaaW.PrintWords Go.Proofs.YtdpodjgggicaoaaW.PrintLast Go.Proofs.YtdpodjgggicaoaaW.PrintMore Go.Proofs.Ytdpodjgggicaoaa.H
theorem w64 (x : Int) (h0 : 0 ≤ x) (h1 : x ≤ 9223372036854775807) : wrap64 x = x := by unfold wrap64; omega
theorem wu64 (x : Int) : IntKind.u64.wrap x = x % 18446744073709551616 := by simp [IntKind.wrap, IntKind.bits, IntKind.signed]
theorem cnt_mn (size : Int) : mn (mx size 0) 8 = (cnt size : Int) := by
  unfold mn mx cnt
  split <;> split <;> omega
theorem putNums_nb (k : Nat) : ∀ n : Nat, putNums k (n : Int) = rowB (nb k n) := by
  induction k with
  | zero => intro n; rfl
  | succ k ih =>
    intro n
    simp only [putNums, nb, rowB_cons]
    rw [show (n : Int) / 256 = ((n / 256 : Nat) : Int) by omega, ih, show (n : Int) % 256 = ((n % 256 : Nat) : Int) by omega]
theorem pack_Put_nat (b : List Nat) (n : Nat) (size : Int) (hl : b.length + 8 < 140737488355328) : pack_Put.f (rowB b) (n : Int) size = some (rowB (b ++ nb (cnt size) n)) := by
  unfold pack_Put.f
  rw [rowB_length, if_pos hl, cnt_mn, Int.toNat_natCast, putNums_nb, rowB_append]
theorem or_low (x y : Nat) (hx : x < 72057594037927936) (hy : y < 256) : Go.bits .or .u64 ((x * 256 : Nat) : Int) ((y : Nat) : Int) = ((x * 256 + y : Nat) : Int) := by
  rw [u64_or_nat (x * 256) y (by omega) (by omega), nat_join 8 (x * 256) y (by omega) (by omega)]
theorem getD_drop_take (b : List Nat) (p k : Nat) (h : p + k < b.length) : (b.drop p).take (k + 1) = (b.drop p).take k ++ [b.getD (p + k) 0] := by
  have hk : k < (b.drop p).length := by rw [List.length_drop]; omega
  rw [List.take_succ_eq_append_getElem hk, List.getElem_drop, List.getD_eq_getElem?_getD, List.getElem?_eq_getElem h]
  rfl
theorem pack_Get_loop (b : List Nat) (p k : Nat) (hb : isB b) (hk : k ≤ 8) (hp : p + k ≤ b.length) (hl : b.length < 4611686018427387904) : ∀ (d : Nat) (acc : List Nat), d ≤ k → (b.drop p).take k = (b.drop p).take d ++ acc →
    pack_Get.l0 (d + 1) (rowB b) (p : Int) ((num acc : Nat) : Int) ((d : Int) - 1) = some (((num ((b.drop p).take k) : Nat) : Int), true) := by
  intro d
  induction d with
  | zero =>
    intro acc hd h
    rw [pack_Get.l0, if_neg (by omega)]
    rw [h]; simp
  | succ d ih =>
    intro acc hd h
    have hacc : isB acc := isB_right (h ▸ isB_take (isB_drop hb p) k)
    have hal : acc.length = k - (d + 1) := by
      have := congrArg List.length h
      rw [List.length_append, List.length_take, List.length_take, List.length_drop] at this
      omega
    have hlt := num_lt acc hacc
    have hle : 256 ^ acc.length ≤ 72057594037927936 := by
      have : 256 ^ acc.length ≤ 256 ^ 7 := Nat.pow_le_pow_right (by decide) (by omega)
      exact Nat.le_trans this (by decide)
    have hx : num acc < 72057594037927936 := Nat.lt_of_lt_of_le hlt hle
    clear hlt hle
    have hw : wrap64 ((p : Int) + (((d + 1 : Nat) : Int) - 1)) = ((p + d : Nat) : Int) := by rw [w64 _ (by omega) (by omega)]; omega
    have hw2 : wrap64 ((((d + 1 : Nat) : Int) - 1) - 1) = (d : Int) - 1 := by unfold wrap64; omega
    have hy := getD_lt hb (p + d)
    have hu1 : IntKind.u64.wrap (((num acc : Nat) : Int) * 256) = ((num acc * 256 : Nat) : Int) := by rw [wu64]; omega
    have hu2 : IntKind.u64.wrap (((b.getD (p + d) 0 : Nat)) : Int) = ((b.getD (p + d) 0 : Nat) : Int) := by rw [wu64]; omega
    rw [pack_Get.l0, if_pos (by omega), hw, if_pos (by omega), rowB_length, if_pos (by omega), rd_rowB _ _ (by omega), hu1, hu2, or_low _ _ hx hy, hw2]
    have h2 := ih (b.getD (p + d) 0 :: acc) (by omega) (by rw [h, getD_drop_take b p d (by omega)]; simp)
    simp only [num] at h2
    rw [show num acc * 256 + b.getD (p + d) 0 = b.getD (p + d) 0 + 256 * num acc by omega]
    exact h2
theorem pack_there_nat (b : List Nat) (at_ : Int) (k : Nat) (hl : b.length < 4611686018427387904) : pack_there.f (rowB b) at_ (k : Int) = some (decide (0 ≤ at_ ∧ at_ + (k : Int) ≤ (b.length : Int))) := by
  unfold pack_there.f
  rw [rowB_length]
  by_cases h1 : at_ ≥ 0
  · rw [if_pos h1]
    by_cases h2 : at_ ≤ (b.length : Int)
    · rw [if_pos h2, w64 _ (by omega) (by omega)]
      congr 1
      rw [decide_eq_decide]
      omega
    · rw [if_neg h2, decide_eq_false (by omega)]
  · rw [if_neg h1, decide_eq_false (by omega)]
def getR (b : List Nat) (at_ : Int) (k : Nat) : Int × Bool := match getN b at_ k with
  | some n => ((n : Int), true)
  | none => (0, false)
theorem pack_Get_nat (K : Nat) (hK : 9 ≤ K) (b : List Nat) (at_ size : Int) (hb : isB b) (hl : b.length < 4611686018427387904) : pack_Get.f K (rowB b) at_ size = some (getR b at_ (cnt size)) := by
  have hc := cnt_le size
  refine at_rounds (pack_Get.mono (rowB b) at_ size) (show cnt size + 1 ≤ K by omega) ?_
  unfold pack_Get.f
  have h1 : pack_count.f size = some (cnt size : Int) := by unfold pack_count.f; rw [cnt_mn]
  rw [h1]
  simp only [Option.bind_some]
  rw [pack_there_nat b at_ (cnt size) hl]
  simp only [Option.bind_some]
  unfold getR getN
  by_cases h : 0 ≤ at_ ∧ at_ + (cnt size : Int) ≤ (b.length : Int)
  · rw [decide_eq_true h, if_pos rfl, if_pos h]
    obtain ⟨p, rfl⟩ := Int.eq_ofNat_of_zero_le h.1
    have hw : wrap64 ((cnt size : Int) - 1) = (cnt size : Int) - 1 := by unfold wrap64; omega
    have := pack_Get_loop b p (cnt size) hb hc (by omega) hl (cnt size) [] (Nat.le_refl _) (by simp)
    rw [hw]
    rw [Int.toNat_natCast]
    exact this
  · rw [decide_eq_false h, if_neg (by decide), if_neg h]
theorem clone_nat (b : List Nat) (hl : b.length < 70368744177664) : slices_Clone_byte_byte.f (rowB b) = some (rowB b) := by
  unfold slices_Clone_byte_byte.f; rw [rowB_length, if_pos (by omega)]
end
section
open Go.RowKit Go.Proofs.YtdpodjgggicaoaaW.PrintWords Go.Proofs.YtdpodjgggicaoaaW.PrintLast Go.Proofs.YtdpodjgggicaoaaW.PrintMore Go.Proofs.Ytdpodjgggicaoaa.H
theorem w64f (x : Int) (h0 : 0 ≤ x) (h1 : x ≤ 9223372036854775807) : wrap64 x = x := by unfold wrap64; omega
theorem ev_eqf {α : Type} {g : Nat → Option α} {r r' : α} (h : Ev g r) (e : r = r') : Ev g r' := e ▸ h
theorem frame_sum_nat (b : List Nat) (hb : isB b) (hl : b.length < 65536) : frame_sum.f (rowB b) = some ((fsum b : Nat) : Int) := by
  have e : IntKind.u64.wrap ((rowB b).length : Int) = ((b.length : Nat) : Int) := by rw [wu64, rowB_length]; omega
  have h1 := check_Sum_nat (nb 2 b.length) (nb_isB _ _)
  have h2 := check_More_nat (sumFrom 0 (nb 2 b.length)) b (sumFrom_small _ _ (by decide) (nb_isB _ _)) hb
  have hp := pack_Put_nat [] b.length 2 (by decide)
  rw [show (rowB [] : List Int) = [] from rfl, List.nil_append, show cnt 2 = 2 from rfl] at hp
  unfold frame_sum.f
  rw [e, hp, Option.bind_some, show rowB (nb 2 b.length) = (nb 2 b.length).map (fun n : Nat => (n : Int)) from rfl, h1, Option.bind_some, show rowB b = b.map (fun n : Nat => (n : Int)) from rfl, h2, Option.bind_some, ← sumFrom_append]
  rfl
end
section
open Go.RowKit Go.Proofs.YtdpodjgggicaoaaW.PrintWords Go.Proofs.YtdpodjgggicaoaaW.PrintLast Go.Proofs.YtdpodjgggicaoaaW.PrintMore Go.Proofs.Ytdpodjgggicaoaa.H
theorem frame_Put_ev (b : List Nat) (hb : isB b) : Ev (fun k => frame_Put.f k (rowB b)) (rowB (framePut b).1, (framePut b).2) := by
  have jt : Ev (fun k => frame_Put.j0 k (rowB b) true) (([] : List Int), (1 : Int)) := Ev.step (f := fun _ => some ([], 1)) (fun k => by rw [frame_Put.j0, if_pos rfl]) (Ev.now _)
  unfold framePut
  by_cases c1 : (b.length : Int) < 1
  · rw [if_neg (by omega)]
    exact Ev.congr (f := fun k => frame_Put.j0 k (rowB b) true) (fun k => by rw [frame_Put.f, rowB_length, if_pos c1]) jt
  by_cases c2 : (b.length : Int) > 2406
  · rw [if_neg (by omega)]
    exact Ev.congr (f := fun k => frame_Put.j0 k (rowB b) true) (fun k => by rw [frame_Put.f, rowB_length, if_neg c1, decide_eq_true c2]) jt
  rw [if_pos ⟨by omega, by omega⟩]
  refine Ev.congr (f := fun k => frame_Put.j0 k (rowB b) false) (fun k => by rw [frame_Put.f, rowB_length, if_neg c1, decide_eq_false c2]) ?_
  have e : IntKind.u64.wrap ((rowB b).length : Int) = ((b.length : Nat) : Int) := by rw [wu64, rowB_length]; omega
  have es : IntKind.u64.wrap ((fsum b : Nat) : Int) = ((fsum b : Nat) : Int) := by have := fsum_lt b hb; rw [wu64]; omega
  have hp := pack_Put_nat [] b.length 2 (by decide)
  rw [show (rowB [] : List Int) = [] from rfl, List.nil_append, show cnt 2 = 2 from rfl] at hp
  refine Ev.step (f := fun _ => some (rowB (nb 2 b.length ++ nb 4 (fsum b) ++ b), 0)) (fun k => ?_) (Ev.now _)
  rw [frame_Put.j0, if_neg (by decide), e, hp, Option.bind_some, frame_sum_nat b hb (by omega), Option.bind_some, es, pack_Put_nat _ _ _ (by rw [nb_length]; decide), Option.bind_some, show cnt 4 = 4 from rfl, rowB_length, rowB_length, if_pos (by simp only [List.length_append, nb_length]; omega), ← rowB_append]
end
section
open Go.RowKit Go.Proofs.YtdpodjgggicaoaaW.PrintWords Go.Proofs.YtdpodjgggicaoaaW.PrintLast Go.Proofs.YtdpodjgggicaoaaW.PrintMore Go.Proofs.Ytdpodjgggicaoaa.H
theorem law06_fixed_ev : Ev (fun k => merkhetlaw06_fixed.f k) true := by
  have h := frame_Put_ev [97] (fun x hx => by simp at hx; omega)
  have e : framePut [97] = (nb 2 1 ++ nb 4 (fsum [97]) ++ [97], 0) := by unfold framePut; rw [if_pos (by decide)]; rfl
  rw [e] at h
  refine Ev.bind h (Ev.congr (fun k => ?_) (Ev.now true))
  have hl : (rowB (nb 2 1 ++ nb 4 (fsum [97]) ++ [97])).length = 7 := by rw [rowB_length]; simp only [List.length_append, nb_length]; rfl
  have r0 : rd (rowB (nb 2 1 ++ nb 4 (fsum [97]) ++ [97])) 0 = 1 := rfl
  have r1 : rd (rowB (nb 2 1 ++ nb 4 (fsum [97]) ++ [97])) 1 = 0 := rfl
  have r6 : rd (rowB (nb 2 1 ++ nb 4 (fsum [97]) ++ [97])) 6 = 97 := rfl
  simp only []
  rw [hl, if_pos trivial, if_pos (by decide), if_pos (by decide), r0, if_pos rfl, if_pos (by decide), r1, if_pos rfl, if_pos (by decide), r6]
  rfl
end
section
open Go.RowKit Go.Proofs.YtdpodjgggicaoaaW.PrintWords Go.Proofs.YtdpodjgggicaoaaW.PrintLast Go.Proofs.YtdpodjgggicaoaaW.PrintMore Go.Proofs.Ytdpodjgggicaoaa.H
theorem pack_Get_evf (b : List Nat) (at_ size : Int) (hb : isB b) (hl : b.length < 4611686018427387904) : Ev (fun k => pack_Get.f k (rowB b) at_ size) (getR b at_ (cnt size)) := ⟨9, fun k hk => pack_Get_nat k hk b at_ size hb hl⟩
theorem fr_wraps (L p n : Nat) (h : p + 6 ≤ L) (hL : L < 1000000000) (hn : n < 65536) :
    wrap64 ((L : Int) - (p : Int)) = ((L - p : Nat) : Int) ∧ wrap64 (((L - p : Nat) : Int) - 6) = ((L - p : Nat) : Int) - 6 ∧ wrap64 (n : Int) = (n : Int) ∧ wrap64 ((p : Int) + 6) = ((p + 6 : Nat) : Int) ∧ wrap64 (((p + 6 : Nat) : Int) + (n : Int)) = ((p + 6 + n : Nat) : Int) := by
  refine ⟨?_, ?_, ?_, ?_, ?_⟩ <;> unfold wrap64 <;> omega
theorem frame_Get_ev (b : List Nat) (at_ : Int) (hb : isB b) (hl : b.length < 1000000000) : Ev (fun k => frame_Get.f k (rowB b) at_) (rowB (frameGet b at_).1, (frameGet b at_).2) := by
  have jt : Ev (fun k => frame_Get.j0 k (rowB b) at_ true) (([] : List Int), (0 : Int), (5 : Int)) := Ev.step (f := fun _ => some ([], 0, 5)) (fun k => by rw [frame_Get.j0, if_pos rfl]) (Ev.now _)
  unfold frameGet
  by_cases c1 : at_ < 0
  · rw [if_pos (Or.inl c1)]
    exact Ev.congr (f := fun k => frame_Get.j0 k (rowB b) at_ true) (fun k => by rw [frame_Get.f, if_pos c1]) jt
  by_cases c2 : at_ ≥ (b.length : Int)
  · rw [if_pos (Or.inr c2)]
    exact Ev.congr (f := fun k => frame_Get.j0 k (rowB b) at_ true) (fun k => by rw [frame_Get.f, if_neg c1, rowB_length, decide_eq_true c2]) jt
  rw [if_neg (by omega)]
  refine Ev.congr (f := fun k => frame_Get.j0 k (rowB b) at_ false) (fun k => by rw [frame_Get.f, if_neg c1, rowB_length, decide_eq_false c2]) ?_
  obtain ⟨p, rfl⟩ := Int.eq_ofNat_of_zero_le (show 0 ≤ at_ by omega)
  rw [Int.toNat_natCast]
  have hs := isB_drop hb p
  have hsl : (b.drop p).length = b.length - p := List.length_drop
  have hw2 : wrap64 ((p : Int) + 2) = ((p + 2 : Nat) : Int) := by rw [w64f _ (by omega) (by omega)]; omega
  have g2 := pack_Get_evf b (p : Int) 2 hb (by omega)
  have g4 := pack_Get_evf b ((p + 2 : Nat) : Int) 4 hb (by omega)
  rw [show cnt 2 = 2 from rfl] at g2
  rw [show cnt 4 = 4 from rfl] at g4
  refine Ev.step (f := fun k => (pack_Get.f k (rowB b) (p : Int) 2).bind fun bt138 => ((pack_Get.f k (rowB b) ((p + 2 : Nat) : Int) 4).bind fun bt140 => (if bt140.2 = true then (if bt138.1 = 0 then (frame_Get.j1 k (rowB b) (p : Int) bt138.1 bt140.1 true) else (frame_Get.j1 k (rowB b) (p : Int) bt138.1 bt140.1 (decide (bt138.1 > 2406)))) else (some (([] : List Int), 0, 2))))) (fun k => by rw [frame_Get.j0, if_neg (by decide), hw2]) ?_
  refine Ev.bind g2 (Ev.bind g4 ?_)
  unfold frameAt
  by_cases c3 : (b.drop p).length < 6
  · rw [if_pos c3]
    have : (getR b ((p + 2 : Nat) : Int) 4).2 = false := by unfold getR getN; rw [if_neg (by omega)]
    exact Ev.congr (f := fun _ => some ([], 0, 2)) (fun k => if_neg (by rw [this]; decide)) (Ev.now _)
  rw [if_neg c3]
  have r2 : getR b (p : Int) 2 = (((num ((b.drop p).take 2) : Nat) : Int), true) := by unfold getR getN; rw [if_pos (by omega), Int.toNat_natCast]
  have r4 : getR b ((p + 2 : Nat) : Int) 4 = (((num (((b.drop p).drop 2).take 4) : Nat) : Int), true) := by unfold getR getN; rw [if_pos (by omega), Int.toNat_natCast, List.drop_drop]
  rw [r2, r4]
  have hn : num ((b.drop p).take 2) < 65536 := by
    refine Nat.lt_of_lt_of_le (num_lt _ (isB_take hs 2)) ?_
    exact Nat.le_trans (Nat.pow_le_pow_right (by decide) (List.length_take_le 2 _)) (by decide)
  have ht : (b.take (p + 6 + num ((b.drop p).take 2))).drop (p + 6) = ((b.drop p).drop 6).take (num ((b.drop p).take 2)) := by
    rw [List.drop_take, List.drop_drop]; congr 1; omega
  generalize hnn : num ((b.drop p).take 2) = n at hn ht ⊢
  generalize num (((b.drop p).drop 2).take 4) = own
  have jf : Ev (fun k => frame_Get.j1 k (rowB b) (p : Int) (n : Int) (own : Int) true) (([] : List Int), (0 : Int), (3 : Int)) := Ev.step (f := fun _ => some ([], 0, 3)) (fun k => by rw [frame_Get.j1, if_pos rfl]) (Ev.now _)
  by_cases c4 : n = 0
  · rw [if_pos c4]
    exact Ev.congr (f := fun k => frame_Get.j1 k (rowB b) (p : Int) (n : Int) (own : Int) true) (fun k => (if_pos rfl).trans (if_pos (by show ((n : Nat) : Int) = 0; omega))) jf
  rw [if_neg c4]
  by_cases c5 : 2406 < n
  · rw [if_pos c5]
    exact Ev.congr (f := fun k => frame_Get.j1 k (rowB b) (p : Int) (n : Int) (own : Int) true) (fun k => (if_pos rfl).trans ((if_neg (by show ¬ ((n : Nat) : Int) = 0; omega)).trans (by rw [decide_eq_true (by show ((n : Nat) : Int) > 2406; omega)]))) jf
  rw [if_neg c5]
  refine Ev.congr (f := fun k => frame_Get.j1 k (rowB b) (p : Int) (n : Int) (own : Int) false) (fun k => (if_pos rfl).trans ((if_neg (by show ¬ ((n : Nat) : Int) = 0; omega)).trans (by rw [decide_eq_false (by show ¬ ((n : Nat) : Int) > 2406; omega)]))) ?_
  have E := Aside0.mk (fr_wraps b.length p n (by omega) (by omega) (by omega))
  by_cases c6 : (b.drop p).length < 6 + n
  · rw [if_pos c6]
    exact Ev.step (f := fun _ => some ([], 0, 2)) (fun k => by rw [frame_Get.j1, if_neg (by decide), rowB_length, E.out.1, E.out.2.1, E.out.2.2.1, if_pos (by omega)]) (Ev.now _)
  rw [if_neg c6]
  have hbl : (((b.drop p).drop 6).take n).length = n := by rw [List.length_take, List.length_drop]; omega
  have hbB : isB (((b.drop p).drop 6).take n) := isB_take (isB_drop hs 6) n
  have es : IntKind.u64.wrap ((fsum (((b.drop p).drop 6).take n) : Nat) : Int) = ((fsum (((b.drop p).drop 6).take n) : Nat) : Int) := by have := fsum_lt _ hbB; rw [wu64]; omega
  have hstep : ∀ k, frame_Get.j1 (k + 1) (rowB b) (p : Int) (n : Int) (own : Int) false = if ((own : Nat) : Int) = ((fsum (((b.drop p).drop 6).take n) : Nat) : Int) then some (rowB (((b.drop p).drop 6).take n), ((p + 6 + n : Nat) : Int), 0) else some ([], 0, 8) := fun k => by
    rw [frame_Get.j1, if_neg (by decide), rowB_length, E.out.1, E.out.2.1, E.out.2.2.1, if_neg (by omega), E.out.2.2.2.1, if_pos (by omega), E.out.2.2.2.2, if_pos (by omega), if_pos (by omega), Int.toNat_natCast, Int.toNat_natCast, rowB_take, rowB_drop, ht, clone_nat _ (by omega), Option.bind_some, frame_sum_nat _ hbB (by omega), Option.bind_some, es]
  by_cases c7 : own ≠ fsum (((b.drop p).drop 6).take n)
  · rw [if_pos c7]
    exact Ev.step (f := fun _ => some ([], 0, 8)) (fun k => by rw [hstep, if_neg (by omega)]) (Ev.now _)
  · rw [if_neg c7]
    refine Ev.step (f := fun _ => some (rowB (((b.drop p).drop 6).take n), ((p + 6 + n : Nat) : Int), 0)) (fun k => by rw [hstep, if_pos (by omega)]) (ev_eqf (Ev.now _) ?_)
    simp only [hbl]
    congr 2
end
section
open Go.RowKit Go.Proofs.YtdpodjgggicaoaaW.PrintWords Go.Proofs.YtdpodjgggicaoaaW.PrintLast Go.Proofs.YtdpodjgggicaoaaW.PrintMore Go.Proofs.Ytdpodjgggicaoaa.H
def pairR (x : List Nat × Nat) : List Int × Int := (rowB x.1, (x.2 : Int))
theorem frame_All_go_ev (b : List Nat) (hb : isB b) (hl : b.length < 1000000000) : ∀ (d c p : Nat), b.length - p < d → Ev (fun k => frame_All_go k (rowB b) c (p : Int)) ((allG c b p).1.map pairR, (allG c b p).2) := by
  intro d
  induction d with
  | zero => intro c p h; exact absurd h (Nat.not_lt_zero _)
  | succ d ih =>
    intro c p h
    cases c with
    | zero => exact Ev.now _
    | succ c =>
      refine Ev.congr (f := fun k => (frame_Get.f k (rowB b) (p : Int)).bind fun g => if g.2.2 = 0 then (frame_All_go k (rowB b) c g.2.1).bind fun r => some ((g.1, g.2.1) :: r.1, r.2) else some ([], true)) (fun k => rfl) ?_
      refine Ev.bind (frame_Get_ev b (p : Int) hb hl) ?_
      by_cases hp2 : b.length ≤ p
      · have e1 : frameGet b (p : Int) = ([], 0, 5) := by unfold frameGet; rw [if_pos (Or.inr (by omega))]
        have e2 : allG (c + 1) b p = ([], true) := by rw [allG, List.drop_eq_nil_of_le hp2, frameAt_nil]
        rw [e1, e2]
        exact Ev.congr (fun k => if_neg (show ¬ ((5 : Int) = 0) by decide)) (Ev.now _)
      · cases hf : frameAt (b.drop p) with
        | error e =>
          have e1 : frameGet b (p : Int) = ([], 0, e) := by unfold frameGet; rw [if_neg (by omega), Int.toNat_natCast, hf]
          have e2 : allG (c + 1) b p = ([], true) := by rw [allG, hf]
          rw [e1, e2]
          exact Ev.congr (fun k => if_neg (show ¬ (e = 0) from frameAt_e0 hf)) (Ev.now _)
        | ok x =>
          have e1 : frameGet b (p : Int) = (x, (p : Int) + 6 + (x.length : Int), 0) := by unfold frameGet; rw [if_neg (by omega), Int.toNat_natCast, hf]
          have e2 : allG (c + 1) b p = ((x, p + 6 + x.length) :: (allG c b (p + 6 + x.length)).1, (allG c b (p + 6 + x.length)).2) := by rw [allG, hf]
          rw [e1, e2, show (p : Int) + 6 + (x.length : Int) = ((p + 6 + x.length : Nat) : Int) by omega]
          exact Ev.congr (fun k => if_pos rfl) (Ev.bind (ih c (p + 6 + x.length) (by omega)) (Ev.now _))
theorem allG_last : ∀ (c : Nat) (b : List Nat) (p : Nat), frame_All_last (p : Int) ((allG c b p).1.map pairR) = ((allF c b p).2 : Int) := by
  intro c
  induction c with
  | zero => intro b p; rfl
  | succ c ih =>
    intro b p
    rw [allG, allF]
    cases hf : frameAt (b.drop p) with
    | error e => rfl
    | ok y =>
      simp only [List.map_cons, frame_All_last, pairR]
      exact ih b _
theorem frame_All_ev (b : List Nat) (hb : isB b) (hl : b.length < 1000000) (at_ most : Int) : Ev (fun k => frame_All.f k (rowB b) at_ most) ((allA b at_ most).1.map rowB, (allA b at_ most).2) := by
  unfold frame_All.f allA
  by_cases h1 : most < 1
  · rw [if_pos (Or.inl h1)]
    exact Ev.congr (fun k => if_pos h1) (Ev.now _)
  obtain ⟨c, hc⟩ := Nat.exists_eq_succ_of_ne_zero (show most.toNat ≠ 0 by omega)
  refine Ev.congr (fun k => if_neg h1) ?_
  by_cases h2 : at_ < 0
  · rw [if_pos (Or.inr h2), hc]
    have g : Ev (fun k => frame_All_go k (rowB b) (c + 1) at_) (([] : List (List Int × Int)), true) := by
      refine Ev.congr (f := fun k => (frame_Get.f k (rowB b) at_).bind fun g => if g.2.2 = 0 then (frame_All_go k (rowB b) c g.2.1).bind fun r => some ((g.1, g.2.1) :: r.1, r.2) else some ([], true)) (fun k => rfl) ?_
      refine Ev.bind (frame_Get_ev b at_ hb (by omega)) ?_
      have e1 : frameGet b at_ = ([], 0, 5) := by unfold frameGet; rw [if_pos (Or.inl h2)]
      rw [e1]
      exact Ev.congr (fun k => if_neg (show ¬ ((5 : Int) = 0) by decide)) (Ev.now _)
    exact Ev.bind g (Ev.congr (fun k => if_pos (Nat.zero_le _)) (Ev.now _))
  · rw [if_neg (by omega)]
    obtain ⟨p, rfl⟩ := Int.eq_ofNat_of_zero_le (show 0 ≤ at_ by omega)
    rw [Int.toNat_natCast]
    refine Ev.bind (frame_All_go_ev b hb (by omega) (b.length - p + 1) most.toNat p (by omega)) ?_
    have hs := (allF_small most.toNat b p hb).1
    have hm : ((allG most.toNat b p).1.map pairR).map (·.1) = (allF most.toNat b p).1.map rowB := by
      rw [← allG_allF, List.map_map, List.map_map]; rfl
    have hlen : ((allG most.toNat b p).1.map pairR).length = (allF most.toNat b p).1.length := by
      rw [← allG_allF, List.length_map, List.length_map]
    refine Ev.congr (fun k => if_pos (by rw [hlen]; omega)) ?_
    rw [hm, allG_last]
    exact Ev.now _
end
end Go.Proofs.Ytdpodjgggicaoaa.FC
