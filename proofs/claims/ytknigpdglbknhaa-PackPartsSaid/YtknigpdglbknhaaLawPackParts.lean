-- WRITTEN FOR THIS CLAIM by wip/tools/mp.py, a program of this project that drives the kit's print; the functions that the print does not take are this project's own texts.
import Derived.Test.YtknigpdglbknhaaRows
import Derived.Test.YtknigpdglbknhaaQx1
import Derived.Test.YtknigpdglbknhaaPurePackParts
import Derived.Test.YtknigpdglbknhaaH2
import Derived.WalkKit
import Derived.ProofKit
import Derived.OpenShut
import Derived.ShutString
import Derived.ChangeOld
import Derived.Below
import Derived.SizedLaws
import Derived.Test.YtknigpdglbknhaaWSized
namespace Go.Proofs.Ytknigpdglbknhaa.packParts
open Go.ChangeShapes Go.WideShapes Go.ChangeAt Go.RowKit Go.Proofs.Ytknigpdglbknhaa.Q Go.Proofs.YtknigpdglbknhaaW.PrintWords
open Go.ChangeMaps (open_string shut_string)
set_option linter.unusedVariables false
theorem own : ownKnob Try.prog.godebug = none := by kernel_rfl
theorem laidOut : laidOutB Try.prog = true := by kernel_rfl
set_option maxRecDepth 100000 in
set_option maxHeartbeats 1000000 in
theorem lifted (os : Os) (started : os.Started) (H : Type) (enc : TypeId × Value → H) :
    ReturnsInHanded {} Try.checked os 8 .any (Rows.packPartsSpec.pre6 enc Try.prog Try.f8 Rows.packPartsRow.domain false) (Rows.packPartsSpec.post enc Try.prog Try.f8 false true false false) := by
  refine returnsInHanded_of_change_sized (C := Try.checked) own started (by kernel_rfl) Try.func8
    (ChangeSpec.witness6 (enc := enc) (C := Try.checked) false ⟨#[], #[.slice none 0 0, .slice none 0 0], []⟩ 8 (by kernel_rfl) (by kernel_rfl) (by kernel_rfl) (by kernel_rfl)) ?_
  intro W base args ds gs before hval0 hW hcnd hsz0 _
  have hsz : (DataW.weightsEach Try.prog (Try.f8.params.toList ++ Rows.packPartsSpec.plain.varTypes Try.prog) (ds ++ gs)).all (· ≤ reachBytes) = true := hsz0
  have hval : ∀ (j : Nat) t v, Try.f8.params[j]? = some t → args[j]? = some v → Value.okWide Try.prog W .any base t v := hval0
  have hW' := hW
  obtain ⟨p, q, hA0, hV, rfl, hfz, hnd⟩ := hW
  have hA : DataW.TrodAll enc Try.prog W 0 (fun _ => true) true Try.f8.params.toList args.toList ds p := hA0
  rw [Try.params8] at hA hval hsz
  obtain ⟨v0, vs0, d0, ds0, p0, q0, hargs, rfl, rfl, h0, r0⟩ := trodAll_cons hA
  obtain ⟨v1, vs1, d1, ds1, p1, q1, rfl, rfl, rfl, h1, r1⟩ := trodAll_cons r0
  obtain ⟨rfl, rfl, rfl⟩ := trodAll_nil r1
  obtain rfl : args = #[v0, v1] := by cases args; simp_all
  obtain ⟨rfl, rfl⟩ := trodVars_none hV
  have lt0 : ∀ x ∈ p0, x.block < W.heap.size := by obtain ⟨m, hm⟩ := h0; exact DataW.trod_lt m _ _ _ hm
  have lt1 : ∀ x ∈ p1, x.block < W.heap.size := by obtain ⟨m, hm⟩ := h1; exact DataW.trod_lt m _ _ _ hm
  have k0_ := h0
  obtain ⟨A0, l0, c0, rfl, hr0, hc0, w0⟩ := Go.Proofs.Ytknigpdglbknhaa.H.open_sl Try.underlying43 (Go.Proofs.Ytknigpdglbknhaa.H.opens_int Try.underlying34 (by kernel_rfl)) (hval 0 43 v0 rfl rfl) h0
  have z0 : l0.length * 8 ≤ 140737488351232 := Go.Proofs.YtknigpdglbknhaaW.PrintWords.sized_ints hsz (j := 0) (t := 43) rfl rfl Try.underlying43 Try.underlying34 (by kernel_rfl) (by kernel_rfl) h0
  have k1_ := h1
  obtain ⟨A1, l1, c1, rfl, hr1, hc1, w1⟩ := Go.Proofs.Ytknigpdglbknhaa.H.open_sl Try.underlying22 (Go.Proofs.Ytknigpdglbknhaa.H.opens_int Try.underlying5 (by kernel_rfl)) (hval 1 22 v1 rfl rfl) h1
  have z1 : l1.length * 1 ≤ 140737488351232 := Go.Proofs.YtknigpdglbknhaaW.PrintWords.sized_ints hsz (j := 1) (t := 22) rfl rfl Try.underlying22 Try.underlying5 (by kernel_rfl) (by kernel_rfl) h1
  clear hA0 hval0 hsz0 hsz
  obtain ⟨k, hp⟩ := Pure.PackParts l0 l1 (Kd.C_max hr0) z0 w0 (Kd.C_max hr1) z1 w1
  refine (merkhetlaw02_PackParts.calls k _ _ l0 _ _ l1 true W hr0 hc0 hr1 hc1 hp).mono ?_
  rintro e W' ⟨rfl, hd_⟩
  have bel : Below W.heap.size W W' := hd_
  exact ⟨_, rfl, _, _, _, [], _, [], hW', trodAll_mk1 (shut_bool Try.underlying4 _), (trodAll_cons_mk (Below.trod laidOut (by kernel_rfl) (of_decide_eq_true (by kernel_rfl)) k0_ bel lt0) (trodAll_cons_mk (Below.trod laidOut (by kernel_rfl) (of_decide_eq_true (by kernel_rfl)) k1_ bel lt1) trodAll_mk0)), rfl, bel.frame _, fun h => by cases h⟩
theorem over : Rows.packPartsRow.holds Try.pinned (OpenSpec.ofChange Rows.packPartsSpec) :=
  OpenClaim.holds_of_wide 8 Try.f8 rfl rfl rfl rfl rfl rfl rfl ⟨rfl, rfl, rfl, rfl, rfl⟩ rfl rfl rfl rfl rfl (by kernel_rfl) Try.func8 (by kernel_rfl)
    (of_decide_eq_true (by kernel_rfl)) (by unfold Func.isWrapper; first | (rw [if_pos (by decide +kernel)]; kernel_rfl) | (rw [if_neg (by decide +kernel)]; exact ⟨rfl, rfl⟩))
    (fun os started H enc _ => lifted os started H enc)
theorem proved : Rows.PackPartsSaid := over
#print axioms proved
end Go.Proofs.Ytknigpdglbknhaa.packParts
namespace Go.Proofs.Ytknigpdglbknhaa
/-- The row, under a short name, for the claim. -/
theorem packParts_holds : Rows.PackPartsSaid := packParts.proved
end Go.Proofs.Ytknigpdglbknhaa
