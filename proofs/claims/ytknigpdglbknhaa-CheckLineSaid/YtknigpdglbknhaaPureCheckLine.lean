/- Of three rows of as many bytes the sum of what they make together, one with the other, is what their sums make: for byte rows of any length (beyond 2000 the law asks its examples alone). -/
import Derived.Test.YtknigpdglbknhaaC2
import Derived.Test.YtknigpdglbknhaaMx3
namespace Go.Proofs.Ytknigpdglbknhaa.Pure
open Go.RowKit Go.Proofs.Ytknigpdglbknhaa.M Go.Proofs.YtknigpdglbknhaaW.PrintWords Go.Proofs.YtknigpdglbknhaaW.PrintLast Go.Proofs.YtknigpdglbknhaaW.PrintMore Go.Proofs.Ytknigpdglbknhaa.H
theorem line_xor (o a b c : Nat) : o ^^^ (a ^^^ b ^^^ c) = (o ^^^ a) ^^^ (o ^^^ b) ^^^ (o ^^^ c) := by
  apply Nat.eq_of_testBit_eq; intro i
  simp only [Nat.testBit_xor]
  cases o.testBit i <;> cases a.testBit i <;> cases b.testBit i <;> cases c.testBit i <;> rfl
theorem line_step (a b c n p q : Nat) : csn 8 ((a ^^^ b ^^^ c) ^^^ (n ^^^ p ^^^ q)) = csn 8 (a ^^^ n) ^^^ csn 8 (b ^^^ p) ^^^ csn 8 (c ^^^ q) := by
  rw [← csn_xor, ← csn_xor]
  congr 1
  apply Nat.eq_of_testBit_eq; intro i
  simp only [Nat.testBit_xor]
  cases a.testBit i <;> cases b.testBit i <;> cases c.testBit i <;> cases n.testBit i <;> cases p.testBit i <;> cases q.testBit i <;> rfl
theorem map_snoc (b : List Nat) (p : Nat) : b.map (fun n : Nat => (n : Int)) ++ [(p : Int)] = (b ++ [p]).map (fun n : Nat => (n : Int)) := by simp
theorem byte_of (x : Nat) (i : Nat) : ∃ p : Nat, p < 256 ∧ (shr .u64 (x : Int) (IntKind.u64.wrap (wrap64 (8 * (Int.tmod (i : Int) 8))))) % 256 = (p : Int) := by
  generalize shr .u64 (x : Int) (IntKind.u64.wrap (wrap64 (8 * (Int.tmod (i : Int) 8)))) = z
  exact ⟨(z % 256).toNat, by omega, by omega⟩
set_option maxHeartbeats 1000000 in
theorem line_loop (m : List Nat) (x y : Nat) (hm : ∀ z ∈ m, z < 256) (hn : m.length ≤ 2000) : ∀ (r i : Nat) (b c d : List Nat), i + r = m.length → b.length = i → c.length = i → d.length = i →
    (∀ z ∈ b, z < 256) → (∀ z ∈ c, z < 256) → (∀ z ∈ d, z < 256) → crc ones d = crc ones (m.take i) ^^^ crc ones b ^^^ crc ones c →
    merkhetlaw03_CheckLine.l0 (r + 1) (m.map (fun n : Nat => (n : Int))) (x : Int) (y : Int) (b.map (fun n : Nat => (n : Int))) (c.map (fun n : Nat => (n : Int))) (d.map (fun n : Nat => (n : Int))) (m.map (fun n : Nat => (n : Int))) (m.length : Int) (i : Int) = some true := by
  intro r
  induction r with
  | zero =>
    intro i b c d hi hb hc hd hb2 hc2 hd2 h
    rw [merkhetlaw03_CheckLine.l0, if_neg (by omega), law03_fixed]
    simp only [Option.bind_some, if_true]
    rw [check_Sum_nat d hd2, check_Sum_nat m hm, check_Sum_nat b hb2, check_Sum_nat c hc2]
    simp only [Option.bind_some]
    have l1 := sumFrom_lt 0 m (by decide) hm
    have l2 := sumFrom_lt 0 b (by decide) hb2
    have l3 := sumFrom_lt 0 c (by decide) hc2
    rw [u32_xor_nat _ _ l1 l2, u32_xor_nat _ _ (Nat.xor_lt_two_pow (n := 32) (by omega) (by omega)) l3]
    have e : sumFrom 0 d = sumFrom 0 m ^^^ sumFrom 0 b ^^^ sumFrom 0 c := by
      rw [List.take_of_length_le (by omega)] at h
      unfold sumFrom
      rw [Nat.xor_zero, h, line_xor]
    rw [e]
    simp
  | succ r ih =>
    intro i b c d hi hb hc hd hb2 hc2 hd2 h
    have hil : i < m.length := by omega
    have c1 : (i : Int) < (m.length : Int) := by omega
    have c2 : (0 : Int) ≤ (i : Int) := by omega
    have lb : b.length < 140737488355328 := by omega
    have lc : c.length < 140737488355328 := by omega
    have ld : d.length < 140737488355328 := by omega
    have w2 : wrap64 ((i : Int) + 1) = ((i + 1 : Nat) : Int) := w64 _ (by omega) (by omega)
    have hi' : i + 1 + r = m.length := by omega
    obtain ⟨p, hp, hpe⟩ := byte_of x i
    obtain ⟨q, hq, hqe⟩ := byte_of y i
    have hx := hm m[i] (List.getElem_mem hil)
    have hrd : rd (m.map (fun n : Nat => (n : Int))) (i : Int) = ((m[i] : Nat) : Int) := by
      simp [rd, List.getD_eq_getElem?_getD, List.getElem?_eq_getElem hil]
    have hsh : 0 ≤ IntKind.u64.wrap (wrap64 (8 * (Int.tmod (i : Int) 8))) := by rw [wrap_u64]; exact Int.emod_nonneg _ (by decide)
    rw [merkhetlaw03_CheckLine.l0, if_pos c1, if_pos c2, List.length_map, if_pos c1, if_pos hsh, hpe, hqe, hrd, w2]
    simp only [List.length_map]
    rw [if_pos lb, if_pos lc, if_pos ld, u8_xor_nat _ _ hx hp, u8_xor_nat _ _ (Nat.xor_lt_two_pow (n := 8) hx hp) hq, map_snoc, map_snoc, map_snoc]
    refine ih (i + 1) _ _ _ hi' (by simp [hb]) (by simp [hc]) (by simp [hd]) ?_ ?_ ?_ ?_
    · intro z hz
      rcases List.mem_append.1 hz with h1 | h1
      · exact hb2 z h1
      · rw [List.mem_singleton.1 h1]; exact hp
    · intro z hz
      rcases List.mem_append.1 hz with h1 | h1
      · exact hc2 z h1
      · rw [List.mem_singleton.1 h1]; exact hq
    · intro z hz
      rcases List.mem_append.1 hz with h1 | h1
      · exact hd2 z h1
      · rw [List.mem_singleton.1 h1]; exact Nat.xor_lt_two_pow (n := 8) (Nat.xor_lt_two_pow (n := 8) hx hp) hq
    · rw [crc_snoc, crc_snoc, crc_snoc, h, List.take_succ_eq_append_getElem hil, crc_snoc, line_step]
theorem CheckLine : merkhetlaw03_CheckLine.Pure := by
  intro l0 a1 a2 hmax _ hl ha1 ha2
  obtain ⟨m, rfl, hm⟩ := bytes_nat l0 (fun x hx => wf_u8 (hl x hx))
  obtain ⟨a, rfl⟩ := Int.eq_ofNat_of_zero_le (wf_u64 ha1).1
  obtain ⟨b, rfl⟩ := Int.eq_ofNat_of_zero_le (wf_u64 ha2).1
  refine ⟨m.length + 1, ?_⟩
  unfold merkhetlaw03_CheckLine.f
  rw [List.length_map]
  by_cases h : (m.length : Int) > 2000
  · rw [if_pos h, law03_fixed]; rfl
  · rw [if_neg h]
    exact line_loop m a b hm (by omega) m.length 0 [] [] [] (by omega) rfl rfl rfl (by simp) (by simp) (by simp) (by simp [crc])
end Go.Proofs.Ytknigpdglbknhaa.Pure
