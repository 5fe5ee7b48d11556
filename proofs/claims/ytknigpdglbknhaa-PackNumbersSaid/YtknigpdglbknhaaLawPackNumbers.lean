-- WRITTEN FOR THIS CLAIM by wip/tools/mp.py, a program of this project that drives the kit's print; the functions that the print does not take are this project's own texts.
import Derived.Test.YtknigpdglbknhaaRows
import Derived.Test.YtknigpdglbknhaaRx6
import Derived.Test.YtknigpdglbknhaaPurePackNumbers
import Derived.Test.YtknigpdglbknhaaH2
import Derived.WalkKit
import Derived.ProofKit
import Derived.OpenShut
import Derived.ShutString
import Derived.ChangeOld
import Derived.Below
import Derived.SizedLaws
import Derived.Test.YtknigpdglbknhaaWSized
namespace Go.Proofs.Ytknigpdglbknhaa.packNumbers
open Go.ChangeShapes Go.WideShapes Go.ChangeAt Go.RowKit Go.Proofs.Ytknigpdglbknhaa.R Go.Proofs.YtknigpdglbknhaaW.PrintWords
open Go.ChangeMaps (open_string shut_string)
set_option linter.unusedVariables false
theorem own : ownKnob Try.prog.godebug = none := by kernel_rfl
theorem laidOut : laidOutB Try.prog = true := by kernel_rfl
theorem opens36 (W : World) : Go.Proofs.Ytknigpdglbknhaa.H.Opens Try.prog W k36 36 (fun x => ((Lit.int .i64 x.f0).wf = true ∧ (Lit.int .i64 x.f1).wf = true)) := by
  refine ⟨by kernel_rfl, ?_⟩
  intro H enc base spare held fuel cs x h
  have hl : cs.length = 2 := (Go.Proofs.Ytknigpdglbknhaa.H.trod_array_len Try.underlying36 h).trans (by kernel_rfl)
  obtain ⟨c0, c1, y0, y1, n, rfl, h0, h1⟩ := Go.Proofs.Ytknigpdglbknhaa.H.trod_array2 Try.underlying36 (by kernel_rfl) hl h
  obtain ⟨v0, K0, w0⟩ := ((Go.Proofs.Ytknigpdglbknhaa.H.opens_int Try.underlying3 (by kernel_rfl)) : Go.Proofs.Ytknigpdglbknhaa.H.Opens Try.prog W (Kd.int .i64) 3 _).op enc base spare held n [c0] _ h0
  obtain rfl := (List.cons.inj (show [c0] = [_] from K0)).1
  obtain ⟨v1, K1, w1⟩ := ((Go.Proofs.Ytknigpdglbknhaa.H.opens_int Try.underlying3 (by kernel_rfl)) : Go.Proofs.Ytknigpdglbknhaa.H.Opens Try.prog W (Kd.int .i64) 3 _).op enc base spare held n [c1] _ h1
  obtain rfl := (List.cons.inj (show [c1] = [_] from K1)).1
  exact ⟨⟨v0, v1⟩, k36_mk W ⟨v0, v1⟩ , ⟨w0, w1⟩⟩
set_option maxRecDepth 100000 in
set_option maxHeartbeats 1000000 in
theorem lifted (os : Os) (started : os.Started) (H : Type) (enc : TypeId × Value → H) :
    ReturnsInHanded {} Try.checked os 7 .any (Rows.packNumbersSpec.pre6 enc Try.prog Try.f7 Rows.packNumbersRow.domain false) (Rows.packNumbersSpec.post enc Try.prog Try.f7 false true false false) := by
  refine returnsInHanded_of_change_sized (C := Try.checked) own started (by kernel_rfl) Try.func7
    (ChangeSpec.witness6 (enc := enc) (C := Try.checked) false ⟨#[], #[.slice none 0 0, .int .u64 0, .agg #[.int .i64 0, .int .i64 0]], []⟩ 8 (by kernel_rfl) (by kernel_rfl) (by kernel_rfl) (by kernel_rfl)) ?_
  intro W base args ds gs before hval0 hW hcnd hsz0 _
  have hsz : (DataW.weightsEach Try.prog (Try.f7.params.toList ++ Rows.packNumbersSpec.plain.varTypes Try.prog) (ds ++ gs)).all (· ≤ reachBytes) = true := hsz0
  have hval : ∀ (j : Nat) t v, Try.f7.params[j]? = some t → args[j]? = some v → Value.okWide Try.prog W .any base t v := hval0
  have hW' := hW
  obtain ⟨p, q, hA0, hV, rfl, hfz, hnd⟩ := hW
  have hA : DataW.TrodAll enc Try.prog W 0 (fun _ => true) true Try.f7.params.toList args.toList ds p := hA0
  rw [Try.params7] at hA hval hsz
  obtain ⟨v0, vs0, d0, ds0, p0, q0, hargs, rfl, rfl, h0, r0⟩ := trodAll_cons hA
  obtain ⟨v1, vs1, d1, ds1, p1, q1, rfl, rfl, rfl, h1, r1⟩ := trodAll_cons r0
  obtain ⟨v2, vs2, d2, ds2, p2, q2, rfl, rfl, rfl, h2, r2⟩ := trodAll_cons r1
  obtain ⟨rfl, rfl, rfl⟩ := trodAll_nil r2
  obtain rfl : args = #[v0, v1, v2] := by cases args; simp_all
  obtain ⟨rfl, rfl⟩ := trodVars_none hV
  have lt0 : ∀ x ∈ p0, x.block < W.heap.size := by obtain ⟨m, hm⟩ := h0; exact DataW.trod_lt m _ _ _ hm
  have lt2 : ∀ x ∈ p2, x.block < W.heap.size := by obtain ⟨m, hm⟩ := h2; exact DataW.trod_lt m _ _ _ hm
  have k0_ := h0
  obtain ⟨A0, l0, c0, rfl, hr0, hc0, w0⟩ := Go.Proofs.Ytknigpdglbknhaa.H.open_sl Try.underlying22 (Go.Proofs.Ytknigpdglbknhaa.H.opens_int Try.underlying5 (by kernel_rfl)) (hval 0 22 v0 rfl rfl) h0
  have z0 : l0.length * 1 ≤ 140737488351232 := Go.Proofs.YtknigpdglbknhaaW.PrintWords.sized_ints hsz (j := 0) (t := 22) rfl rfl Try.underlying22 Try.underlying5 (by kernel_rfl) (by kernel_rfl) h0
  obtain ⟨a1, rfl, rfl, rfl, w1⟩ := open_int Try.underlying34 (hval 1 34 v1 rfl rfl) h1
  have k2_ := h2
  obtain ⟨y2, cs2, rfl, hK2, w2⟩ := Go.Proofs.Ytknigpdglbknhaa.H.open_agg (opens36 _) (by have hv_ := (hval 2 36 v2 rfl rfl); simp only [Value.okWide, Try.underlying36] at hv_; obtain ⟨cs, h1, h2, _⟩ := hv_; exact ⟨cs, h1, h2⟩) h2
  obtain rfl := k36_open hK2
  obtain ⟨a2_0, a2_1⟩ := y2
  clear hA0 hval0 hsz0 hsz
  obtain ⟨k, hp⟩ := Pure.PackNumbers l0 a1 a2_0 a2_1 (Kd.C_max hr0) z0 w0 w1 w2.1 w2.2
  refine (merkhetlaw02_PackNumbers.calls k _ _ l0 a1 a2_0 a2_1 true W hr0 hc0 hp).mono ?_
  rintro e W' ⟨rfl, hd_⟩
  have bel : Below W.heap.size W W' := hd_
  exact ⟨_, rfl, _, _, _, [], _, [], hW', trodAll_mk1 (shut_bool Try.underlying4 _), (trodAll_cons_mk (Below.trod laidOut (by kernel_rfl) (of_decide_eq_true (by kernel_rfl)) k0_ bel lt0) (trodAll_cons_mk (shut_int Try.underlying34 w1) (trodAll_cons_mk (Below.trod laidOut (by kernel_rfl) (of_decide_eq_true (by kernel_rfl)) k2_ bel lt2) trodAll_mk0))), rfl, bel.frame _, fun h => by cases h⟩
theorem over : Rows.packNumbersRow.holds Try.pinned (OpenSpec.ofChange Rows.packNumbersSpec) :=
  OpenClaim.holds_of_wide 7 Try.f7 rfl rfl rfl rfl rfl rfl rfl ⟨rfl, rfl, rfl, rfl, rfl⟩ rfl rfl rfl rfl rfl (by kernel_rfl) Try.func7 (by kernel_rfl)
    (of_decide_eq_true (by kernel_rfl)) (by unfold Func.isWrapper; first | (rw [if_pos (by decide +kernel)]; kernel_rfl) | (rw [if_neg (by decide +kernel)]; exact ⟨rfl, rfl⟩))
    (fun os started H enc _ => lifted os started H enc)
theorem proved : Rows.PackNumbersSaid := over
#print axioms proved
end Go.Proofs.Ytknigpdglbknhaa.packNumbers
namespace Go.Proofs.Ytknigpdglbknhaa
/-- The row, under a short name, for the claim. -/
theorem packNumbers_holds : Rows.PackNumbersSaid := packNumbers.proved
end Go.Proofs.Ytknigpdglbknhaa
