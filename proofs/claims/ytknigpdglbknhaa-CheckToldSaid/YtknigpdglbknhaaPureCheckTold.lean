/- Bytes that are changed within 32 bits in a row have another sum, and where nothing is changed the same: for byte rows of any length (beyond 2000, or of no byte, the law asks its examples alone). -/
import Derived.Test.YtknigpdglbknhaaC2
import Derived.Test.YtknigpdglbknhaaMx2
namespace Go.Proofs.Ytknigpdglbknhaa.Pure
open Go.RowKit Go.Proofs.Ytknigpdglbknhaa.M Go.Proofs.YtknigpdglbknhaaW.PrintWords Go.Proofs.YtknigpdglbknhaaW.PrintLast Go.Proofs.YtknigpdglbknhaaW.PrintMore Go.Proofs.Ytknigpdglbknhaa.H
theorem mul_xor (a b f : Nat) : (a ^^^ b) * 2 ^ f = a * 2 ^ f ^^^ b * 2 ^ f := by
  simp only [← Nat.shiftLeft_eq]
  exact Nat.shiftLeft_xor_distrib
theorem told_end (m mc : List Nat) (f d : Nat) (hm : ∀ x ∈ m, x < 256) (hmc : ∀ x ∈ mc, x < 256) (hl : mc.length = m.length) (hd : d < 2 ^ 32) (hmsg : msg mc = msg m ^^^ d * 2 ^ f) (hf : f ≤ 8 * m.length) (k : Nat) (by_ : Int) (fi : Int) :
    merkhetlaw03_CheckTold.l0 (k + 1) (m.map (fun n : Nat => (n : Int))) by_ (mc.map (fun n : Nat => (n : Int))) fi (decide (d = 0)) 32 = some true := by
  rw [merkhetlaw03_CheckTold.l0, if_neg (by omega), law03_fixed]
  simp only [Option.bind_some, if_true]
  rw [check_Sum_nat mc hmc, check_Sum_nat m hm]
  simp only [Option.bind_some]
  have h := sum_told m mc f d hl hmsg hf hd
  by_cases h0 : d = 0
  · simp [h0, h.2 h0]
  · have : ¬ sumFrom 0 mc = sumFrom 0 m := fun e => h0 (h.1 e)
    have h3 : ((sumFrom 0 mc : Int) == (sumFrom 0 m : Int)) = false := by rw [beq_eq_false_iff_ne]; omega
    rw [h3]
    simp [h0]
theorem told_words (n f i : Nat) (hn : n ≤ 2000) (hf : f < 8 * n) (hi : i < 32) : IntKind.u64.wrap (i : Int) = (i : Int) ∧ wrap64 ((i : Int) + 1) = ((i + 1 : Nat) : Int) ∧ wrap64 ((f : Int) + (i : Int)) = ((f + i : Nat) : Int) ∧
    wrap64 (8 * (n : Int)) = ((8 * n : Nat) : Int) ∧ (i : Int) < 32 := by
  refine ⟨by rw [wrap_u64]; omega, w64 _ (by omega) (by omega), w64 _ (by omega) (by omega), w64 _ (by omega) (by omega), by omega⟩
theorem told_bits (b i : Nat) (hb : b < 4294967296) (hi : i < 32) : shr .u32 (b : Int) (i : Int) = ((b / 2 ^ i : Nat) : Int) ∧ Go.bits .and .u32 ((b / 2 ^ i : Nat) : Int) 1 = ((b / 2 ^ i % 2 : Nat) : Int) := by
  constructor
  · unfold shr
    rw [Int.toNat_natCast, show IntKind.u32.bits = 32 from rfl, Nat.min_eq_left (by omega)]
    norm_cast
  · have h := u32_and_nat (b / 2 ^ i) 1 (Nat.lt_of_le_of_lt (Nat.div_le_self _ _) hb) (by decide)
    rw [Nat.and_one_is_mod] at h
    exact h
theorem told_place (n f i : Nat) (hn : n ≤ 2000) (hat : f + i < 8 * n) : wrap64 (Int.tdiv ((f + i : Nat) : Int) 8) = (((f + i) / 8 : Nat) : Int) ∧ IntKind.u64.wrap (Int.tmod ((f + i : Nat) : Int) 8) = (((f + i) % 8 : Nat) : Int) ∧ (f + i) / 8 < n ∧ (f + i) % 8 < 8 ∧ (0 : Int) ≤ (((f + i) / 8 : Nat) : Int) ∧ (((f + i) / 8 : Nat) : Int) < (n : Int) ∧ (0 : Int) ≤ (((f + i) % 8 : Nat) : Int) ∧ (((f + i : Nat) : Int) < ((8 * n : Nat) : Int)) := by
  refine ⟨?_, ?_, by omega, by omega, by omega, by omega, by omega, by omega⟩
  · rw [Int.tdiv_eq_ediv_of_nonneg (by omega)]; exact w64 _ (by omega) (by omega)
  · rw [Int.tmod_eq_emod_of_nonneg (by omega), wrap_u64]; omega
theorem told_exp (f i : Nat) : (f + i) % 8 + 8 * ((f + i) / 8) = i + f := by omega
set_option maxHeartbeats 1000000 in
theorem told_loop (m : List Nat) (f b : Nat) (hm : ∀ x ∈ m, x < 256) (hn : m.length ≤ 2000) (hf : f < 8 * m.length) (hb : b < 4294967296) : ∀ (r i : Nat) (mc : List Nat) (d : Nat), i + r = 32 →
    (∀ x ∈ mc, x < 256) → mc.length = m.length → d < 2 ^ i → msg mc = msg m ^^^ d * 2 ^ f →
    merkhetlaw03_CheckTold.l0 (r + 1) (m.map (fun n : Nat => (n : Int))) (b : Int) (mc.map (fun n : Nat => (n : Int))) (f : Int) (decide (d = 0)) (i : Int) = some true := by
  intro r
  induction r with
  | zero =>
    intro i mc d hi hmc hl hd hmsg
    obtain rfl : i = 32 := by omega
    exact told_end m mc f d hm hmc hl hd hmsg (by omega) 0 _ _
  | succ r ih =>
    intro i mc d hi hmc hl hd hmsg
    have hi32 : i < 32 := by omega
    have hi' : i + 1 + r = 32 := by omega
    obtain ⟨w1, w2, w3, w4, w5⟩ := told_words m.length f i hn hf hi32
    obtain ⟨hsh, hbit⟩ := told_bits b i hb hi32
    have hd' : d < 2 ^ (i + 1) := Nat.lt_of_lt_of_le hd (Nat.pow_le_pow_right (by decide) (Nat.le_succ i))
    rw [merkhetlaw03_CheckTold.l0, if_pos w5, w1, if_pos (Int.natCast_nonneg i), hsh, hbit, w2, w3, List.length_map, w4]
    by_cases hp : b / 2 ^ i % 2 = 1
    · have hpi : ((b / 2 ^ i % 2 : Nat) : Int) = 1 := congrArg Int.ofNat hp
      rw [if_pos hpi]
      by_cases hat : f + i < 8 * m.length
      · obtain ⟨t1, t2, t3, hs8, t5, t6, t7, t8⟩ := told_place m.length f i hn hat
        have hidx : (f + i) / 8 < mc.length := hl ▸ t3
        rw [if_pos t8, t1, if_pos t5, List.length_map, hl, if_pos t6, t2, if_pos t7]
        have hrd : rd (mc.map (fun n : Nat => (n : Int))) (((f + i) / 8 : Nat) : Int) = ((mc.getD ((f + i) / 8) 0 : Nat) : Int) := by
          rw [rd, Int.toNat_natCast, List.getD_eq_getElem?_getD, List.getElem?_map, List.getD_eq_getElem?_getD, List.getElem?_eq_getElem hidx]
          rfl
        have hpow : 2 ^ ((f + i) % 8) < 256 := Nat.lt_of_lt_of_le (Nat.pow_lt_pow_right (by decide) hs8) (by decide)
        have hshl : shl .u8 1 (((f + i) % 8 : Nat) : Int) = ((2 ^ ((f + i) % 8) : Nat) : Int) := by
          unfold shl
          rw [Int.toNat_natCast, show IntKind.u8.bits = 8 from rfl, Nat.min_eq_left (Nat.le_of_lt hs8), Int.one_mul, IntKind.wrap_u8]
          have : ((2 : Int) ^ ((f + i) % 8)) = ((2 ^ ((f + i) % 8) : Nat) : Int) := by norm_cast
          rw [this]; exact Int.emod_eq_of_lt (Int.natCast_nonneg _) (Int.ofNat_lt.2 hpow)
        have hg : mc.getD ((f + i) / 8) 0 < 256 := by
          have : mc.getD ((f + i) / 8) 0 = mc[(f + i) / 8] := by simp [List.getD_eq_getElem?_getD, List.getElem?_eq_getElem hidx]
          rw [this]; exact hmc _ (List.getElem_mem hidx)
        rw [hrd, hshl, u8_xor_nat _ _ hg hpow, Int.toNat_natCast, ← List.map_set]
        have hne : d ^^^ 2 ^ i ≠ 0 := by
          intro h
          have h2 := xor_low (a := 1) (b := d) (n := i) hd
          rw [Nat.one_mul, Nat.xor_comm] at h2
          rw [h2] at h
          exact absurd h (Nat.ne_of_gt (Nat.lt_of_lt_of_le (Nat.pow_pos (by decide)) (Nat.le_add_right _ _)))
        have hdd := ih (i + 1) (mc.set ((f + i) / 8) (mc.getD ((f + i) / 8) 0 ^^^ 2 ^ ((f + i) % 8))) (d ^^^ 2 ^ i) hi'
          (fun x hx => by
            rcases List.mem_or_eq_of_mem_set hx with h | h
            · exact hmc x h
            · rw [h]; exact Nat.xor_lt_two_pow (n := 8) hg hpow)
          (by rw [List.length_set]; exact hl)
          (Nat.xor_lt_two_pow hd' (Nat.pow_lt_pow_right (by decide) (Nat.lt_succ_self i)))
          (by
            rw [msg_set _ _ _ hidx, hmsg, mul_xor, Nat.xor_assoc]
            congr 2
            rw [← Nat.pow_add, ← Nat.pow_add]
            congr 1
            exact told_exp f i)
        rw [show decide (d ^^^ 2 ^ i = 0) = false from decide_eq_false hne] at hdd
        exact hdd
      · rw [if_neg (fun h => hat (Int.ofNat_lt.1 h))]
        exact ih (i + 1) mc d hi' hmc hl hd' hmsg
    · have hpn : ¬ ((b / 2 ^ i % 2 : Nat) : Int) = 1 := fun h => hp (Int.ofNat.inj h)
      rw [if_neg hpn]
      exact ih (i + 1) mc d hi' hmc hl hd' hmsg
theorem CheckTold : merkhetlaw03_CheckTold.Pure := by
  intro l0 a1 a2 hmax _ hl ha1 ha2
  obtain ⟨m, rfl, hm⟩ := bytes_nat l0 (fun x hx => wf_u8 (hl x hx))
  obtain ⟨a, rfl⟩ := Int.eq_ofNat_of_zero_le (wf_u16 ha1).1
  have ha := (wf_u16 ha1).2
  obtain ⟨b, rfl⟩ := Int.eq_ofNat_of_zero_le (wf_u32 ha2).1
  have hb := (wf_u32 ha2).2
  refine ⟨34, ?_⟩
  unfold merkhetlaw03_CheckTold.f
  rw [List.length_map] at *
  by_cases h : (m.length : Int) > 2000
  · rw [if_pos h, merkhetlaw03_CheckTold.j0, if_pos rfl, law03_fixed]; rfl
  · rw [if_neg h]
    by_cases h0 : m.length = 0
    · rw [show ((m.length : Int) == 0) = true by rw [beq_iff_eq]; omega, merkhetlaw03_CheckTold.j0, if_pos rfl, law03_fixed]; rfl
    · rw [show ((m.length : Int) == 0) = false by rw [beq_eq_false_iff_ne]; omega, merkhetlaw03_CheckTold.j0, if_neg (by decide)]
      simp only [Option.bind_some]
      rw [List.length_map, if_pos (by simp; omega)]
      have w4 : wrap64 (8 * (m.length : Int)) = ((8 * m.length : Nat) : Int) := w64 _ (by omega) (by omega)
      have w5 : wrap64 (a : Int) = (a : Int) := w64 _ (by omega) (by omega)
      rw [w4, w5, if_neg (by omega), Int.tmod_eq_emod_of_nonneg (by omega), List.nil_append]
      have := told_loop m (a % (8 * m.length)) b hm (by omega) (Nat.mod_lt _ (by omega)) (by omega) 32 0 m 0 (by omega) hm rfl (by decide) (by simp)
      rw [show decide (0 = 0) = true from rfl] at this
      exact this
end Go.Proofs.Ytknigpdglbknhaa.Pure
