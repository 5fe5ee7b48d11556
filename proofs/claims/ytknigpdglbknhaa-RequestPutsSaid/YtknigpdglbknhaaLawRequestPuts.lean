-- WRITTEN FOR THIS CLAIM by wip/tools/mp.py, a program of this project that drives the kit's print; the functions that the print does not take are this project's own texts.
import Derived.Test.YtknigpdglbknhaaRows
import Derived.Test.YtknigpdglbknhaaQx4
import Derived.Test.YtknigpdglbknhaaPureRequestPuts
import Derived.Test.YtknigpdglbknhaaH2
import Derived.WalkKit
import Derived.ProofKit
import Derived.OpenShut
import Derived.ShutString
import Derived.ChangeOld
import Derived.Below
import Derived.SizedLaws
import Derived.Test.YtknigpdglbknhaaWSized
namespace Go.Proofs.Ytknigpdglbknhaa.requestPuts
open Go.ChangeShapes Go.WideShapes Go.ChangeAt Go.RowKit Go.Proofs.Ytknigpdglbknhaa.Q Go.Proofs.YtknigpdglbknhaaW.PrintWords
open Go.ChangeMaps (open_string shut_string)
set_option linter.unusedVariables false
theorem own : ownKnob Try.prog.godebug = none := by kernel_rfl
theorem laidOut : laidOutB Try.prog = true := by kernel_rfl
set_option maxRecDepth 100000 in
theorem opens54 (W : World) : Go.Proofs.Ytknigpdglbknhaa.H.Opens Try.prog W k54 54 (fun x => ((Lit.int .i64 x.f0).wf = true ∧ (∀ x0_ ∈ x.f1, (Lit.int .u8 x0_).wf = true) ∧ (Lit.int .u64 x.f2).wf = true)) := by
  refine ⟨by kernel_rfl, ?_⟩
  intro H enc base spare held fuel cs x h
  obtain ⟨xs, n, _, _, hl0, hlen, hg⟩ := DataW.trod_struct Try.underlying54 h
  have hl : cs.length = 3 := hl0.trans (by kernel_rfl)
  match cs, hl with
  | [c0, c1, c2], _ =>
  have hx : xs.length = 3 := hlen
  match xs, hx with
  | [y0, y1, y2], _ =>
  have h0 : DataW.trod enc Try.prog W base spare held n 3 [c0] = some y0 := by have h_ := hg 0 _ rfl; rw [show Try.prog.cellsOf _ = 1 from by kernel_rfl] at h_; exact h_
  have h1 : DataW.trod enc Try.prog W base spare held n 22 [c1] = some y1 := by have h_ := hg 1 _ rfl; rw [show Try.prog.cellsOf _ = 1 from by kernel_rfl] at h_; exact h_
  have h2 : DataW.trod enc Try.prog W base spare held n 34 [c2] = some y2 := by have h_ := hg 2 _ rfl; rw [show Try.prog.cellsOf _ = 1 from by kernel_rfl] at h_; exact h_
  obtain ⟨v0, K0, w0⟩ := ((Go.Proofs.Ytknigpdglbknhaa.H.opens_int Try.underlying3 (by kernel_rfl)) : Go.Proofs.Ytknigpdglbknhaa.H.Opens Try.prog W (Kd.int .i64) 3 _).op enc base spare held n [c0] _ h0
  obtain rfl := (List.cons.inj (show [c0] = [_] from K0)).1
  obtain ⟨v1, K1, w1⟩ := ((Go.Proofs.Ytknigpdglbknhaa.H.opens_slice Try.underlying22 (by kernel_rfl) (Go.Proofs.Ytknigpdglbknhaa.H.opens_int Try.underlying5 (by kernel_rfl))) : Go.Proofs.Ytknigpdglbknhaa.H.Opens Try.prog W (Kd.slice 5 (Kd.int .u8)) 22 _).op enc base spare held n [c1] _ h1
  obtain ⟨A1, q1, e1, l1, g1⟩ := K1
  obtain rfl := (List.cons.inj e1).1
  obtain ⟨v2, K2, w2⟩ := ((Go.Proofs.Ytknigpdglbknhaa.H.opens_int Try.underlying34 (by kernel_rfl)) : Go.Proofs.Ytknigpdglbknhaa.H.Opens Try.prog W (Kd.int .u64) 34 _).op enc base spare held n [c2] _ h2
  obtain rfl := (List.cons.inj (show [c2] = [_] from K2)).1
  exact ⟨⟨v0, v1, v2⟩, k54_mk W ⟨v0, v1, v2⟩ l1 g1, ⟨w0, w1, w2⟩⟩
set_option maxRecDepth 100000 in
set_option maxHeartbeats 1000000 in
theorem lifted (os : Os) (started : os.Started) (H : Type) (enc : TypeId × Value → H) :
    ReturnsInHanded {} Try.checked os 11 .any (Rows.requestPutsSpec.pre6 enc Try.prog Try.f11 Rows.requestPutsRow.domain false) (Rows.requestPutsSpec.post enc Try.prog Try.f11 false true false false) := by
  refine returnsInHanded_of_change_sized (C := Try.checked) own started (by kernel_rfl) Try.func11
    (ChangeSpec.witness6 (enc := enc) (C := Try.checked) false ⟨#[], #[.agg #[.int .i64 0, .slice none 0 0, .int .u64 0]], []⟩ 8 (by kernel_rfl) (by kernel_rfl) (by kernel_rfl) (by kernel_rfl)) ?_
  intro W base args ds gs before hval0 hW hcnd hsz0 _
  have hsz : (DataW.weightsEach Try.prog (Try.f11.params.toList ++ Rows.requestPutsSpec.plain.varTypes Try.prog) (ds ++ gs)).all (· ≤ reachBytes) = true := hsz0
  have hval : ∀ (j : Nat) t v, Try.f11.params[j]? = some t → args[j]? = some v → Value.okWide Try.prog W .any base t v := hval0
  have hW' := hW
  obtain ⟨p, q, hA0, hV, rfl, hfz, hnd⟩ := hW
  have hA : DataW.TrodAll enc Try.prog W 0 (fun _ => true) true Try.f11.params.toList args.toList ds p := hA0
  rw [Try.params11] at hA hval hsz
  obtain ⟨v0, vs0, d0, ds0, p0, q0, hargs, rfl, rfl, h0, r0⟩ := trodAll_cons hA
  obtain ⟨rfl, rfl, rfl⟩ := trodAll_nil r0
  obtain rfl : args = #[v0] := by cases args; simp_all
  obtain ⟨rfl, rfl⟩ := trodVars_none hV
  have lt0 : ∀ x ∈ p0, x.block < W.heap.size := by obtain ⟨m, hm⟩ := h0; exact DataW.trod_lt m _ _ _ hm
  have k0_ := h0
  obtain ⟨y0, cs0, rfl, hK0, w0⟩ := Go.Proofs.Ytknigpdglbknhaa.H.open_agg (opens54 _) (okWide_struct Try.underlying54 (hval 0 54 v0 rfl rfl)) h0
  obtain ⟨A0_1, c0_1, rfl, hc0_1, hr0_1⟩ := k54_open hK0
  obtain ⟨a0_0, l0_1, a0_2⟩ := y0
  clear hA0 hval0 hsz0 hsz
  obtain ⟨k, hp⟩ := Pure.RequestPuts a0_0 l0_1 a0_2 w0.1 (Kd.C_max hr0_1) w0.2.1 w0.2.2
  refine (merkhetlaw23_RequestPuts.calls k a0_0 _ _ l0_1 a0_2 true W hr0_1 hc0_1 hp).mono ?_
  rintro e W' ⟨rfl, hd_⟩
  have bel : Below W.heap.size W W' := hd_
  exact ⟨_, rfl, _, _, _, [], _, [], hW', trodAll_mk1 (shut_bool Try.underlying4 _), (trodAll_cons_mk (Below.trod laidOut (by kernel_rfl) (of_decide_eq_true (by kernel_rfl)) k0_ bel lt0) trodAll_mk0), rfl, bel.frame _, fun h => by cases h⟩
theorem over : Rows.requestPutsRow.holds Try.pinned (OpenSpec.ofChange Rows.requestPutsSpec) :=
  OpenClaim.holds_of_wide 11 Try.f11 rfl rfl rfl rfl rfl rfl rfl ⟨rfl, rfl, rfl, rfl, rfl⟩ rfl rfl rfl rfl rfl (by kernel_rfl) Try.func11 (by kernel_rfl)
    (of_decide_eq_true (by kernel_rfl)) (by unfold Func.isWrapper; first | (rw [if_pos (by decide +kernel)]; kernel_rfl) | (rw [if_neg (by decide +kernel)]; exact ⟨rfl, rfl⟩))
    (fun os started H enc _ => lifted os started H enc)
theorem proved : Rows.RequestPutsSaid := over
#print axioms proved
end Go.Proofs.Ytknigpdglbknhaa.requestPuts
namespace Go.Proofs.Ytknigpdglbknhaa
/-- The row, under a short name, for the claim. -/
theorem requestPuts_holds : Rows.RequestPutsSaid := requestPuts.proved
end Go.Proofs.Ytknigpdglbknhaa
