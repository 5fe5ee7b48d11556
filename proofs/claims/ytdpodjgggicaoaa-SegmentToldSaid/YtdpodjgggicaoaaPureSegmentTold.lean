/- A head of which up to 32 bits in a row are changed is none, and where nothing is changed it is read. -/
import Derived.Test.YtdpodjgggicaoaaH28
import Derived.Test.YtdpodjgggicaoaaSTC18f
import Derived.Test.YtdpodjgggicaoaaSTx6
set_option linter.unusedVariables false
namespace Go.Proofs.Ytdpodjgggicaoaa.Pure
open Go.RowKit Go.Proofs.Ytdpodjgggicaoaa.ST Go.Proofs.YtdpodjgggicaoaaW.PrintWords Go.Proofs.YtdpodjgggicaoaaW.PrintLast Go.Proofs.YtdpodjgggicaoaaW.PrintMore Go.Proofs.Ytdpodjgggicaoaa.H

theorem told_words (f i : Nat) (hf : f < 100000) (hi : i < 32) : IntKind.u64.wrap (i : Int) = (i : Int) ∧ wrap64 ((i : Int) + 1) = ((i + 1 : Nat) : Int) ∧ wrap64 ((f : Int) + (i : Int)) = ((f + i : Nat) : Int) ∧ (i : Int) < 32 := by
  refine ⟨by rw [wrap_u64]; omega, w64f _ (by omega) (by omega), w64f _ (by omega) (by omega), by omega⟩
theorem told_bits (b i : Nat) (hb : b < 4294967296) (hi : i < 32) : shr .u32 (b : Int) (i : Int) = ((b / 2 ^ i : Nat) : Int) ∧ Go.bits .and .u32 ((b / 2 ^ i : Nat) : Int) 1 = ((b / 2 ^ i % 2 : Nat) : Int) := by
  constructor
  · unfold shr
    rw [Int.toNat_natCast, show IntKind.u32.bits = 32 from rfl, Nat.min_eq_left (by omega)]
    norm_cast
  · have h := u32_and_nat (b / 2 ^ i) 1 (Nat.lt_of_le_of_lt (Nat.div_le_self _ _) hb) (by decide)
    rw [Nat.and_one_is_mod] at h
    exact h
theorem told_place (n f i : Nat) (hn : n ≤ 2000) (hat : f + i < 8 * n) : wrap64 (Int.tdiv ((f + i : Nat) : Int) 8) = (((f + i) / 8 : Nat) : Int) ∧ IntKind.u64.wrap (Int.tmod ((f + i : Nat) : Int) 8) = (((f + i) % 8 : Nat) : Int) ∧ (f + i) / 8 < n ∧ (f + i) % 8 < 8 ∧ (0 : Int) ≤ (((f + i) / 8 : Nat) : Int) ∧ (((f + i) / 8 : Nat) : Int) < (n : Int) ∧ (0 : Int) ≤ (((f + i) % 8 : Nat) : Int) := by
  refine ⟨?_, ?_, by omega, by omega, by omega, by omega, by omega⟩
  · rw [Int.tdiv_eq_ediv_of_nonneg (by omega)]; exact w64f _ (by omega) (by omega)
  · rw [Int.tmod_eq_emod_of_nonneg (by omega), wrap_u64]; omega
theorem told_le (f i e : Nat) (h : f + i < e) : i + 1 + f ≤ e := by omega
theorem told_exp (f i : Nat) : (f + i) % 8 + 8 * ((f + i) / 8) = i + f := by omega
theorem rowB_set (m : List Nat) (i x : Nat) : (rowB m).set i (x : Int) = rowB (m.set i x) := by simp [rowB, List.map_set]
theorem told_end (n f d : Nat) (mc : List Nat) (x1 x2 : Int) (hn : n < 4294967296) (hmc : isB mc) (hl : mc.length = 14) (hf : f ≤ 112) (hd : d < 2 ^ 32) (hm : msg mc = msg (segHead n 5) ^^^ d * 2 ^ f) :
    Ev (fun k => merkhetlaw07_SegmentTold.l0 k (n : Int) x1 x2 (rowB mc) (decide (d = 0)) 32) true := by
  obtain ⟨k1, k2⟩ := seg_told n 5 f d hn (by decide) (by decide) mc hmc hl hf hd hm
  have r := segment_Read_14 mc hmc (by omega)
  clear hm
  by_cases h0 : d = 0
  · rw [k1 h0, seg14_head n 5 hn (by decide) (by decide)] at r
    rw [k1 h0]
    refine Ev.step (f := fun k => (segment_Read.f k (rowB (segHead n 5))).bind fun bt226 => ((merkhetlaw07_fixed.f k).bind fun t235 => (if t235 = true then (if bt226.2.2.2.2.2 = 0 then (some (bt226.1 == (n : Int))) else (some false)) else (some false)))) (fun k => by rw [merkhetlaw07_SegmentTold.l0, if_neg (by decide), decide_eq_true h0]; rfl) ?_
    refine Ev.bind r (Ev.bind law07_fixed_ev (Ev.congr (fun k => ?_) (Ev.now true)))
    simp
  · have e : seg14 mc = (0, 0, [], 0, false, 8) ∨ seg14 mc = (0, 0, [], 0, false, 3) := by
      unfold seg14
      rcases k2 h0 with h | h
      · rw [h]; exact Or.inl rfl
      · rw [h]; exact Or.inr rfl
    refine Ev.step (f := fun k => (segment_Read.f k (rowB mc)).bind fun bt226 => ((merkhetlaw07_fixed.f k).bind fun t236 => (if t236 = true then (if bt226.2.2.2.2.2 = 8 then (if bt226.2.1 = 0 then (some (bt226.2.2.2.1 == 0)) else (some false)) else (if bt226.2.2.2.2.2 = 3 then (if bt226.2.1 = 0 then (some (bt226.2.2.2.1 == 0)) else (some false)) else (some false))) else (some false)))) (fun k => by rw [merkhetlaw07_SegmentTold.l0, if_neg (by decide), decide_eq_false h0]; rfl) ?_
    rcases e with e | e
    · rw [e] at r
      exact Ev.bind r (Ev.bind law07_fixed_ev (Ev.congr (fun k => by simp) (Ev.now true)))
    · rw [e] at r
      exact Ev.bind r (Ev.bind law07_fixed_ev (Ev.congr (fun k => by simp) (Ev.now true)))
set_option maxHeartbeats 1000000 in
theorem told_loop (n f a c : Nat) (hn : n < 4294967296) (hf : f < 112) (ha : wrap64 (a : Int) = (a : Int)) (hg : Int.tmod (a : Int) 112 = (f : Int)) (hcb : c < 4294967296) : ∀ (r i : Nat) (mc : List Nat) (d : Nat), i + r = 32 →
    isB mc → mc.length = 14 → d < 2 ^ i → msg mc = msg (segHead n 5) ^^^ d * 2 ^ f →
    Ev (fun k => merkhetlaw07_SegmentTold.l0 k (n : Int) (a : Int) (c : Int) (rowB mc) (decide (d = 0)) (i : Int)) true := by
  intro r
  induction r with
  | zero =>
    intro i mc d hi hmc hl hd hmsg
    obtain rfl : i = 32 := by omega
    exact told_end n f d mc _ _ hn hmc hl (by omega) hd hmsg
  | succ r ih =>
    intro i mc d hi hmc hl hd hmsg
    have hi32 : i < 32 := by omega
    have hi' : i + 1 + r = 32 := by omega
    obtain ⟨w1, w2, w3, w5⟩ := told_words f i (by omega) hi32
    obtain ⟨hsh, hbit⟩ := told_bits c i hcb hi32
    have hd' : d < 2 ^ (i + 1) := Nat.lt_of_lt_of_le hd (Nat.pow_le_pow_right (by decide) (Nat.le_succ i))
    by_cases hpb : c / 2 ^ i % 2 = 1
    · have hpi : ((c / 2 ^ i % 2 : Nat) : Int) = 1 := congrArg Int.ofNat hpb
      by_cases hat : f + i < 112
      · obtain ⟨t1, t2, t3, hs8, t5, t6, t7⟩ := told_place 14 f i (by decide) hat
        have hidx : (f + i) / 8 < mc.length := hl ▸ t3
        have hpow : 2 ^ ((f + i) % 8) < 256 := Nat.lt_of_lt_of_le (Nat.pow_lt_pow_right (by decide) hs8) (by decide)
        have hshl : shl .u8 1 (((f + i) % 8 : Nat) : Int) = ((2 ^ ((f + i) % 8) : Nat) : Int) := by
          unfold shl
          rw [Int.toNat_natCast, show IntKind.u8.bits = 8 from rfl, Nat.min_eq_left (Nat.le_of_lt hs8), Int.one_mul, IntKind.wrap_u8]
          have : ((2 : Int) ^ ((f + i) % 8)) = ((2 ^ ((f + i) % 8) : Nat) : Int) := by norm_cast
          rw [this]; exact Int.emod_eq_of_lt (Int.natCast_nonneg _) (Int.ofNat_lt.2 hpow)
        have hg' := getD_lt hmc ((f + i) / 8)
        have hne : d ^^^ 2 ^ i ≠ 0 := by
          intro h
          have h2 := xor_low (a := 1) (b := d) (n := i) hd
          rw [Nat.one_mul, Nat.xor_comm] at h2
          rw [h2] at h
          exact absurd h (Nat.ne_of_gt (Nat.lt_of_lt_of_le (Nat.pow_pos (by decide)) (Nat.le_add_right _ _)))
        have hx : d ^^^ 2 ^ i < 2 ^ (i + 1) := Nat.xor_lt_two_pow hd' (Nat.pow_lt_pow_right (by decide) (Nat.lt_succ_self i))
        have hdd := ih (i + 1) (mc.set ((f + i) / 8) (mc.getD ((f + i) / 8) 0 ^^^ 2 ^ ((f + i) % 8))) (d ^^^ 2 ^ i) hi'
          (fun x hx => by
            rcases List.mem_or_eq_of_mem_set hx with h | h
            · exact hmc x h
            · rw [h]; exact Nat.xor_lt_two_pow (n := 8) hg' hpow)
          (by rw [List.length_set]; exact hl) hx
          (by
            rw [msg_set _ _ _ hidx, hmsg, mul_xor', Nat.xor_assoc]
            congr 2
            rw [← Nat.pow_add, ← Nat.pow_add]
            congr 1
            exact told_exp f i)
        rw [show decide (d ^^^ 2 ^ i = 0) = false from decide_eq_false hne] at hdd
        refine Ev.step (f := fun k => merkhetlaw07_SegmentTold.l0 k (n : Int) (a : Int) (c : Int) (rowB (mc.set ((f + i) / 8) (mc.getD ((f + i) / 8) 0 ^^^ 2 ^ ((f + i) % 8)))) false ((i + 1 : Nat) : Int)) (fun k => ?_) hdd
        have hat' : ((f + i : Nat) : Int) < 112 := Int.ofNat_lt.2 hat
        have t6' : (((f + i) / 8 : Nat) : Int) < ((14 : Nat) : Int) := t6
        rw [merkhetlaw07_SegmentTold.l0, if_pos w5, w1, if_pos (Int.natCast_nonneg i), hsh, hbit, w2, ha, hg, w3, if_pos hpi, if_pos hat', t1, if_pos t5, rowB_length, hl, if_pos t6', t2, if_pos t7, rd_rowB _ _ hidx, hshl, u8_xor_nat _ _ hg' hpow, Int.toNat_natCast, rowB_set]
      · have hat' : ¬ ((f + i : Nat) : Int) < 112 := fun h => hat (Int.ofNat_lt.1 h)
        refine Ev.step (f := fun k => merkhetlaw07_SegmentTold.l0 k (n : Int) (a : Int) (c : Int) (rowB mc) (decide (d = 0)) ((i + 1 : Nat) : Int)) (fun k => ?_) (ih (i + 1) mc d hi' hmc hl hd' hmsg)
        rw [merkhetlaw07_SegmentTold.l0, if_pos w5, w1, if_pos (Int.natCast_nonneg i), hsh, hbit, w2, ha, hg, w3, if_pos hpi, if_neg hat']
    · have hpn : ¬ ((c / 2 ^ i % 2 : Nat) : Int) = 1 := fun h => hpb (Int.ofNat.inj h)
      refine Ev.step (f := fun k => merkhetlaw07_SegmentTold.l0 k (n : Int) (a : Int) (c : Int) (rowB mc) (decide (d = 0)) ((i + 1 : Nat) : Int)) (fun k => ?_) (ih (i + 1) mc d hi' hmc hl hd' hmsg)
      rw [merkhetlaw07_SegmentTold.l0, if_pos w5, w1, if_pos (Int.natCast_nonneg i), hsh, hbit, w2, if_neg hpn]
theorem SegmentTold : merkhetlaw07_SegmentTold.Pure := by
  intro a0 a1 a2 h0 h1 h2
  obtain ⟨n, rfl⟩ := Int.eq_ofNat_of_zero_le (wf_u32 h0).1
  have hn := (wf_u32 h0).2
  obtain ⟨a, rfl⟩ := Int.eq_ofNat_of_zero_le (wf_u8 h1).1
  have ha := (wf_u8 h1).2
  obtain ⟨c, rfl⟩ := Int.eq_ofNat_of_zero_le (wf_u32 h2).1
  have hc := (wf_u32 h2).2
  clear h0 h1 h2
  have hn' : n < 4294967296 := by omega
  apply Ev.rounds
  unfold merkhetlaw07_SegmentTold.f
  have e : segPut n 5 = (segHead n 5, 0) := rfl
  have hh : Ev (fun _ : Nat => segment_Head.f (n : Int) 5) (rowB (segHead n 5), (0 : Int)) := ⟨0, fun k _ => by rw [segment_Head_nat n hn' 5, e]⟩
  refine Ev.bind hh ?_
  refine Ev.congr (f := fun k => merkhetlaw07_SegmentTold.j0 k n a c (rowB (segHead n 5)) false) (fun k => by rw [if_pos rfl, rowB_length, segHead_length]; rfl) ?_
  have hm : a % 112 < 112 := Nat.mod_lt _ (by decide)
  have w := told_loop n (a % 112) a c hn' hm (w64f _ (by omega) (by omega)) (by rw [Int.tmod_eq_emod_of_nonneg (by omega)]; norm_cast) (by omega) 32 0 (segHead n 5) 0 (by decide) (segHead_isB n 5) (segHead_length n 5) (by decide) (by simp)
  exact Ev.step (f := fun k => merkhetlaw07_SegmentTold.l0 k (n : Int) (a : Int) (c : Int) (rowB (segHead n 5)) (decide (0 = 0)) ((0 : Nat) : Int)) (fun k => by rw [merkhetlaw07_SegmentTold.j0, if_neg (by decide)]; rfl) w
end Go.Proofs.Ytdpodjgggicaoaa.Pure
