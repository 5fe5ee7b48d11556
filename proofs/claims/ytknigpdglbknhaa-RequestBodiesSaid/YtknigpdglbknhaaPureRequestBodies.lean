/- Each body of up to 4096 bytes can be ingested, and no other; it is read as it was: for bodies of each length below 5000 and each first byte. No conditions. -/
import Derived.Test.YtknigpdglbknhaaVx2
import Derived.Test.YtknigpdglbknhaaVC23a
set_option linter.unusedVariables false
namespace Go.Proofs.Ytknigpdglbknhaa.Pure
open Go.RowKit Go.Proofs.Ytknigpdglbknhaa.V Go.Proofs.Ytknigpdglbknhaa.H Go.Proofs.YtknigpdglbknhaaW.PrintWords Go.Proofs.YtknigpdglbknhaaW.PrintLast
/-- The body's bytes. -/
def bodyB (a i : Nat) : Nat := (a + i % 7 % 256) % 256
def bodyS (a q i : Nat) : List Nat := (List.range i).map (bodyB a) ++ List.replicate (q - i) 0
theorem bodyS_len (a q i : Nat) (h : i ≤ q) : (bodyS a q i).length = q := by simp [bodyS]; omega
theorem bodyS_step (a q i : Nat) (h : i < q) : (bodyS a q i).set i (bodyB a i) = bodyS a q (i + 1) := by
  unfold bodyS
  obtain ⟨d, hd⟩ : ∃ d, q - i = d + 1 := ⟨q - i - 1, by omega⟩
  rw [hd, List.replicate_succ, List.set_append_right _ _ (by simp), List.length_map, List.length_range, Nat.sub_self, List.set_cons_zero, List.range_succ, List.map_append, List.append_assoc, show q - (i + 1) = d by omega]
  rfl
theorem bodyS_isB (a q : Nat) : isB (bodyS a q q) := by
  intro x hx
  unfold bodyS at hx
  rw [Nat.sub_self, List.replicate_zero, List.append_nil] at hx
  obtain ⟨i, _, rfl⟩ := List.mem_map.1 hx
  exact Nat.mod_lt _ (by decide)
theorem rowB_set (m : List Nat) (i v : Nat) : (rowB m).set i (v : Int) = rowB (m.set i v) := by unfold rowB; rw [List.map_set]
theorem bodies_end (m : List Nat) (hb : isB m) (hl : m.length < 5000) : Ev (fun k => (request_Put.f k 1 (rowB m) 0).bind fun bt124 => ((some (([1] : List Int) : List Int)).bind fun y128 => (if y128.length + (rowB m).length < 140737488355328 then ((request_Get.f k (y128 ++ rowB m)).bind fun bt134 => (if ((rowB m).length : Int) > 4096 then ((merkhetlaw23_fixed.f k).bind fun t141 => (if t141 = true then (if bt124.2 = 1 then (if (bt124.1.length : Int) = 0 then (if bt134.2.2.2 = 10 then (some (bt134.1 == 0)) else (some false)) else (some false)) else (some false)) else (some false))) else ((merkhetlaw23_fixed.f k).bind fun t142 => (if t142 = true then (if bt124.2 = 0 then (if (bt124.1.length : Int) = (wrap64 (((rowB m).length : Int) + 1)) then (if bt134.2.2.2 = 0 then (if bt134.1 = 1 then (some ((strOfNums bt134.2.1).toList == (strOfNums (rowB m)).toList)) else (some false)) else (some false)) else (some false)) else (some false)) else (some false))))) else (none)))) true := by
  refine Ev.bind (reqPut_ev 1 0 m (Int.le_refl _)) ?_
  rw [rowB_length]
  refine Ev.congr (fun k => by rw [Option.bind_some, if_pos (show ([1] : List Int).length + m.length < 140737488355328 by show 1 + m.length < _; omega)]) ?_
  have hb1 : isB (1 :: m) := isB_cons (by decide) hb
  have hg := reqGet_ev (1 :: m) hb1 (by rw [List.length_cons]; omega)
  rw [show rowB (1 :: m) = [1] ++ rowB m from rfl] at hg
  refine Ev.bind hg ?_
  by_cases c : (m.length : Int) > 4096
  · have e1 : putR 1 m 0 = ([], 1) := by
      unfold putR
      rw [if_neg (fun h => by rw [mayR_iff] at h; omega)]
    have e2 : getRq (1 :: m) = (0, [], 0, 10) := by rw [getRq_cons, if_pos rfl, if_pos (by omega)]
    rw [e1, e2]
    refine Ev.congr (fun k => by rw [if_pos c]) (Ev.bind law23_fixed_ev ?_)
    exact Ev.congr (f := fun _ => some true) (fun k => rfl) (Ev.now _)
  · have e1 : putR 1 m 0 = (1 :: m, 0) := by
      unfold putR
      rw [if_pos (mayR_iff.2 (.inl ⟨rfl, by omega, rfl⟩)), if_neg (by decide), List.append_nil]
      rfl
    have e2 : getRq (1 :: m) = (1, m, 0, 0) := by rw [getRq_cons, if_pos rfl, if_neg (by omega)]
    rw [e1, e2]
    have ew : wrap64 ((m.length : Int) + 1) = (m.length : Int) + 1 := by unfold wrap64; omega
    refine Ev.congr (fun k => by rw [if_neg c]) (Ev.bind law23_fixed_ev ?_)
    refine Ev.congr (f := fun _ => some true) (fun k => ?_) (Ev.now _)
    rw [if_pos rfl, if_pos rfl, if_pos (by rw [rowB_length, List.length_cons, ew]; omega), if_pos rfl, if_pos rfl, beq_self_eq_true]
theorem bodies_l0 (a q : Nat) (ha : a < 256) (hq : q < 5000) : ∀ (d i : Nat), i + d = q → Ev (fun k => merkhetlaw23_RequestBodies.l0 k (a : Int) (rowB (bodyS a q i)) (q : Int) (i : Int)) true := by
  intro d
  induction d with
  | zero =>
    intro i hi
    obtain rfl : i = q := by omega
    have hlen := bodyS_len a i i (Nat.le_refl _)
    refine Ev.step (fun k => by rw [merkhetlaw23_RequestBodies.l0, if_neg (by omega)]) ?_
    exact bodies_end (bodyS a i i) (bodyS_isB a i) (by omega)
  | succ d ih =>
    intro i hi
    have hlen := bodyS_len a q i (by omega)
    refine Ev.step (fun k => ?_) (ih (i + 1) (by omega))
    have e1 : ((a : Int) + ((Int.tmod (i : Int) 7) % 256)) % 256 = ((bodyB a i : Nat) : Int) := by
      unfold bodyB
      rw [show Int.tmod (i : Int) 7 = ((i % 7 : Nat) : Int) from rfl]
      omega
    have ew : wrap64 ((i : Int) + 1) = ((i + 1 : Nat) : Int) := by unfold wrap64; omega
    rw [merkhetlaw23_RequestBodies.l0, if_pos (by omega), if_pos (by omega), if_pos (by rw [rowB_length]; omega), e1, Int.toNat_natCast, rowB_set, bodyS_step a q i (by omega), ew]
theorem RequestBodies : merkhetlaw23_RequestBodies.Pure := by
  intro n a hn ha
  refine Ev.rounds (g := fun k => merkhetlaw23_RequestBodies.f k n a) ?_
  have hn0 : 0 ≤ n ∧ n ≤ 65535 := by
    simp [Lit.wf, IntKind.min, IntKind.max, IntKind.signed, IntKind.bits] at hn; omega
  have ha0 : 0 ≤ a ∧ a ≤ 255 := by
    simp [Lit.wf, IntKind.min, IntKind.max, IntKind.signed, IntKind.bits] at ha; omega
  obtain ⟨m, rfl⟩ := Int.eq_ofNat_of_zero_le hn0.1
  obtain ⟨b, rfl⟩ := Int.eq_ofNat_of_zero_le ha0.1
  unfold merkhetlaw23_RequestBodies.f
  have e1 : wrap64 (m : Int) = (m : Int) := by unfold wrap64; omega
  have e2 : Int.tmod (m : Int) 5000 = ((m % 5000 : Nat) : Int) := rfl
  have hq : m % 5000 < 5000 := Nat.mod_lt _ (by decide)
  generalize m % 5000 = q at e2 hq
  refine Ev.congr (fun k => by rw [e1, e2, if_pos (by omega), Int.toNat_natCast, if_pos (by omega), Option.bind_some, List.length_replicate]) ?_
  have h_ := bodies_l0 b q (by omega) hq q 0 (by omega)
  rw [show rowB (bodyS b q 0) = List.replicate q 0 by show rowB (List.replicate q 0) = _; rw [← rowB_replicate]; rfl] at h_
  exact h_
end Go.Proofs.Ytknigpdglbknhaa.Pure
