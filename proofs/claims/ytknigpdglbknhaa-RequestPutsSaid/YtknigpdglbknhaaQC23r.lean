/- Layer 23, the document's May and Put. -/
import Derived.Test.YtknigpdglbknhaaQC23a
import Derived.Test.YtknigpdglbknhaaQx2
import Derived.Test.YtknigpdglbknhaaQx3
set_option linter.unusedVariables false
namespace Go.Proofs.Ytknigpdglbknhaa.Q
open Go.RowKit Go.Proofs.Ytknigpdglbknhaa.H Go.Proofs.YtknigpdglbknhaaW.PrintWords Go.Proofs.YtknigpdglbknhaaW.PrintLast Go.Proofs.YtknigpdglbknhaaW.PrintMore
theorem refMay23_ev (kd t : Int) (l : List Int) : Ev (fun k => merkhetref23_May.f k kd l t) (mayR kd l.length t) := by
  have j : ∀ b : Bool, Ev (fun k => merkhetref23_May.j0 k b kd l t) (!b && (if kd = 1 then decide (l.length ≤ 4096) && decide (t = 0) else decide (l.length = 0) && (decide (kd = 4) || decide (t = 0)))) := by
    intro b
    cases b with
    | true => exact Ev.step (f := fun _ => some false) (fun k => by rw [merkhetref23_May.j0, if_pos rfl]) (Ev.now _)
    | false =>
      refine Ev.step (f := fun _ => some (if kd = 1 then decide (l.length ≤ 4096) && decide (t = 0) else decide (l.length = 0) && (decide (kd = 4) || decide (t = 0)))) (fun k => ?_) (Ev.now _)
      rw [merkhetref23_May.j0, if_neg Bool.false_ne_true]
      by_cases c1 : kd = 1
      · rw [if_pos c1, if_pos c1]
        by_cases c : (l.length : Int) < 4097
        · rw [if_pos c, decide_eq_true (show l.length ≤ 4096 by omega), Bool.true_and]; congr 1
        · rw [if_neg c, decide_eq_false (show ¬ l.length ≤ 4096 by omega), Bool.false_and]
      · rw [if_neg c1, if_neg c1]
        by_cases c : (l.length : Int) = 0
        · rw [if_pos c, decide_eq_true (show l.length = 0 by omega), Bool.true_and]
          by_cases c4 : kd = 4
          · rw [if_pos c4, decide_eq_true c4, Bool.true_or]
          · rw [if_neg c4, decide_eq_false c4, Bool.false_or]; congr 1
        · rw [if_neg c, decide_eq_false (show ¬ l.length = 0 by omega), Bool.false_and]
  unfold merkhetref23_May.f
  by_cases c0 : kd < 1
  · refine Ev.congr (fun k => by rw [if_pos c0]) (ev_eqq (j true) ?_)
    cases hm : mayR kd l.length t with
    | true => have := mayR_kd hm; omega
    | false => rfl
  by_cases c5 : kd > 5
  · refine Ev.congr (fun k => by rw [if_neg c0, decide_eq_true c5]) (ev_eqq (j true) ?_)
    cases hm : mayR kd l.length t with
    | true => have := mayR_kd hm; omega
    | false => rfl
  · refine Ev.congr (fun k => by rw [if_neg c0, decide_eq_false c5]) (ev_eqq (j false) ?_)
    rw [Bool.not_false, Bool.true_and, Bool.eq_iff_iff, mayR_iff]
    by_cases c1 : kd = 1
    · rw [if_pos c1, Bool.and_eq_true, decide_eq_true_eq, decide_eq_true_eq]; omega
    · rw [if_neg c1, Bool.and_eq_true, Bool.or_eq_true, decide_eq_true_eq, decide_eq_true_eq, decide_eq_true_eq]; omega
theorem ref2Put_evq (n : Nat) (size : Int) (hn : n < 18446744073709551616) : Ev (fun k => merkhetref02_Put.f k (n : Int) size) (txt (nb (cnt size) n)) := ⟨9, fun k hk => ref_Put_nat k hk n size hn⟩
theorem refPut23_ev (kd t : Int) (b : List Nat) (ht : 0 ≤ t) (ht2 : t ≤ 18446744073709551615) : Ev (fun k => merkhetref23_Put.f k kd (rowB b) t) (txt (putR kd b t).1, (putR kd b t).2) := by
  unfold merkhetref23_Put.f putR
  refine Ev.bind (refMay23_ev kd t (rowB b)) ?_
  rw [rowB_length]
  cases hm : mayR kd b.length t with
  | false => exact Ev.congr (f := fun _ => some ((⟨#[]⟩ : ByteArray), (1 : Int))) (fun k => by rw [if_neg Bool.false_ne_true]) (Ev.now _)
  | true =>
    have h := mayR_kd hm
    have e1 : IntKind.u64.wrap kd = ((kd.toNat : Nat) : Int) := by rw [wu64]; omega
    obtain ⟨n, rfl⟩ := Int.eq_ofNat_of_zero_le ht
    simp only [if_true]
    refine Ev.congr (fun k => by rw [e1]) ?_
    have e2 : nb (cnt 1) kd.toNat = [kd.toNat] := by
      show [kd.toNat % 256] = _
      rw [Nat.mod_eq_of_lt (by omega)]
    refine Ev.bind (ref2Put_evq kd.toNat 1 (by omega)) ?_
    rw [e2, strOf_rowB]
    have e3 : (txt [kd.toNat]).size + (txt b).size ≤ 9223372036854775807 := by rw [txt_size, txt_size]; show 1 + b.length ≤ _; omega
    by_cases c4 : kd = 4
    · refine Ev.congr (fun k => by rw [if_pos e3, if_pos c4]) ?_
      refine Ev.bind (ref2Put_evq n 8 (by omega)) ?_
      rw [if_pos c4, show cnt 8 = 8 from rfl]
      refine Ev.congr (f := fun _ => some (txt (kd.toNat :: b ++ nb 8 n), (0 : Int))) (fun k => ?_) (Ev.now _)
      rw [txt_append, if_pos (by rw [txt_size, txt_size, nb_length, List.length_append, List.length_singleton]; omega), txt_append]
      rfl
    · refine Ev.congr (f := fun _ => some (txt (kd.toNat :: b), (0 : Int))) (fun k => ?_) (ev_eqq (Ev.now _) (by rw [if_neg c4, List.append_nil]))
      rw [if_pos e3, if_neg c4, txt_append]
      rfl
end Go.Proofs.Ytknigpdglbknhaa.Q
