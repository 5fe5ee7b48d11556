-- WRITTEN FOR THIS CLAIM by wip/tools/mp.py, a program of this project that drives the kit's print; the functions that the print does not take are this project's own texts.
import Derived.Test.YtacjlaiddnfpdaaRows
import Derived.Test.YtacjlaiddnfpdaaLx8
import Derived.Test.YtacjlaiddnfpdaaPureRelaxSure
import Derived.Test.YtacjlaiddnfpdaaH2
import Derived.WalkKit
import Derived.ProofKit
import Derived.OpenShut
import Derived.ShutString
import Derived.ChangeOld
import Derived.Below
import Derived.SizedLaws
import Derived.Test.YtacjlaiddnfpdaaWSized
namespace Go.Proofs.Ytacjlaiddnfpdaa.relaxSure
open Go.ChangeShapes Go.WideShapes Go.ChangeAt Go.RowKit Go.Proofs.Ytacjlaiddnfpdaa.L Go.Proofs.YtacjlaiddnfpdaaW.PrintWords
open Go.ChangeMaps (open_string shut_string)
set_option linter.unusedVariables false
theorem own : ownKnob Try.prog.godebug = none := by kernel_rfl
theorem laidOut : laidOutB Try.prog = true := by kernel_rfl
set_option maxRecDepth 100000 in
theorem opens43 (W : World) : Go.Proofs.Ytacjlaiddnfpdaa.H.Opens Try.prog W k43 43 (fun x => ((Lit.int .u8 x.f0).wf = true ∧ (Lit.int .u8 x.f1).wf = true)) := by
  refine ⟨by kernel_rfl, ?_⟩
  intro H enc base spare held fuel cs x h
  have hl : cs.length = 2 := (Go.Proofs.Ytacjlaiddnfpdaa.H.trod_array_len Try.underlying43 h).trans (by kernel_rfl)
  obtain ⟨c0, c1, y0, y1, n, rfl, h0, h1⟩ := Go.Proofs.Ytacjlaiddnfpdaa.H.trod_array2 Try.underlying43 (by kernel_rfl) hl h
  obtain ⟨v0, K0, w0⟩ := ((Go.Proofs.Ytacjlaiddnfpdaa.H.opens_int Try.underlying5 (by kernel_rfl)) : Go.Proofs.Ytacjlaiddnfpdaa.H.Opens Try.prog W (Kd.int .u8) 5 _).op enc base spare held n [c0] _ h0
  obtain rfl := (List.cons.inj (show [c0] = [_] from K0)).1
  obtain ⟨v1, K1, w1⟩ := ((Go.Proofs.Ytacjlaiddnfpdaa.H.opens_int Try.underlying5 (by kernel_rfl)) : Go.Proofs.Ytacjlaiddnfpdaa.H.Opens Try.prog W (Kd.int .u8) 5 _).op enc base spare held n [c1] _ h1
  obtain rfl := (List.cons.inj (show [c1] = [_] from K1)).1
  exact ⟨⟨v0, v1⟩, k43_mk W ⟨v0, v1⟩ , ⟨w0, w1⟩⟩
set_option maxRecDepth 100000 in
set_option maxHeartbeats 1000000 in
theorem lifted (os : Os) (started : os.Started) (H : Type) (enc : TypeId × Value → H) :
    ReturnsInHanded {} Try.checked os 7 .any (Rows.relaxSureSpec.pre6 enc Try.prog Try.f7 Rows.relaxSureRow.domain false) (Rows.relaxSureSpec.post enc Try.prog Try.f7 false true false false) := by
  refine returnsInHanded_of_change_sized (C := Try.checked) own started (by kernel_rfl) Try.func7
    (ChangeSpec.witness6 (enc := enc) (C := Try.checked) false ⟨#[], #[.slice none 0 0, .slice none 0 0, .slice none 0 0], []⟩ 8 (by kernel_rfl) (by kernel_rfl) (by kernel_rfl) (by kernel_rfl)) ?_
  intro W base args ds gs before hval0 hW hcnd hsz0 _
  have hsz : (DataW.weightsEach Try.prog (Try.f7.params.toList ++ Rows.relaxSureSpec.plain.varTypes Try.prog) (ds ++ gs)).all (· ≤ reachBytes) = true := hsz0
  have hval : ∀ (j : Nat) t v, Try.f7.params[j]? = some t → args[j]? = some v → Value.okWide Try.prog W .any base t v := hval0
  have hW' := hW
  obtain ⟨p, q, hA0, hV, rfl, hfz, hnd⟩ := hW
  have hA : DataW.TrodAll enc Try.prog W 0 (fun _ => true) true Try.f7.params.toList args.toList ds p := hA0
  rw [Try.params7] at hA hval hsz
  obtain ⟨v0, vs0, d0, ds0, p0, q0, hargs, rfl, rfl, h0, r0⟩ := trodAll_cons hA
  obtain ⟨v1, vs1, d1, ds1, p1, q1, rfl, rfl, rfl, h1, r1⟩ := trodAll_cons r0
  obtain ⟨v2, vs2, d2, ds2, p2, q2, rfl, rfl, rfl, h2, r2⟩ := trodAll_cons r1
  obtain ⟨rfl, rfl, rfl⟩ := trodAll_nil r2
  obtain rfl : args = #[v0, v1, v2] := by cases args; simp_all
  obtain ⟨rfl, rfl⟩ := trodVars_none hV
  have lt0 : ∀ x ∈ p0, x.block < W.heap.size := by obtain ⟨m, hm⟩ := h0; exact DataW.trod_lt m _ _ _ hm
  have lt1 : ∀ x ∈ p1, x.block < W.heap.size := by obtain ⟨m, hm⟩ := h1; exact DataW.trod_lt m _ _ _ hm
  have lt2 : ∀ x ∈ p2, x.block < W.heap.size := by obtain ⟨m, hm⟩ := h2; exact DataW.trod_lt m _ _ _ hm
  have k0_ := h0
  obtain ⟨A0, l0, c0, rfl, hr0, hc0, w0⟩ := Go.Proofs.Ytacjlaiddnfpdaa.H.open_sl Try.underlying23 (Go.Proofs.Ytacjlaiddnfpdaa.H.opens_int Try.underlying2 (by kernel_rfl)) (hval 0 23 v0 rfl rfl) h0
  have z0 : l0.length * 8 ≤ 140737488351232 := Go.Proofs.YtacjlaiddnfpdaaW.PrintWords.sized_ints hsz (j := 0) (t := 23) rfl rfl Try.underlying23 Try.underlying2 (by kernel_rfl) (by kernel_rfl) h0
  have k1_ := h1
  obtain ⟨A1, l1, c1, rfl, hr1, hc1, w1⟩ := Go.Proofs.Ytacjlaiddnfpdaa.H.open_sl Try.underlying41 (opens43 _) (hval 1 41 v1 rfl rfl) h1
  have k2_ := h2
  obtain ⟨A2, l2, c2, rfl, hr2, hc2, w2⟩ := Go.Proofs.Ytacjlaiddnfpdaa.H.open_sl Try.underlying42 (Go.Proofs.Ytacjlaiddnfpdaa.H.opens_int Try.underlying44 (by kernel_rfl)) (hval 2 42 v2 rfl rfl) h2
  have z2 : l2.length * 4 ≤ 140737488351232 := Go.Proofs.YtacjlaiddnfpdaaW.PrintWords.sized_ints hsz (j := 2) (t := 42) rfl rfl Try.underlying42 Try.underlying44 (by kernel_rfl) (by kernel_rfl) h2
  clear hA0 hval0 hsz0 hsz
  obtain ⟨k, hp⟩ := Pure.RelaxSure l0 l1 l2 (Kd.C_max hr0) z0 w0 (Kd.C_max hr1) w1 (Kd.C_max hr2) z2 w2
  refine (merkhetlaw15_RelaxSure.calls k _ _ l0 _ _ l1 _ _ l2 true W hr0 hc0 hr1 hc1 hr2 hc2 hp).mono ?_
  rintro e W' ⟨rfl, hd_⟩
  have bel : Below W.heap.size W W' := hd_
  exact ⟨_, rfl, _, _, _, [], _, [], hW', trodAll_mk1 (shut_bool Try.underlying4 _), (trodAll_cons_mk (Below.trod laidOut (by kernel_rfl) (of_decide_eq_true (by kernel_rfl)) k0_ bel lt0) (trodAll_cons_mk (Below.trod laidOut (by kernel_rfl) (of_decide_eq_true (by kernel_rfl)) k1_ bel lt1) (trodAll_cons_mk (Below.trod laidOut (by kernel_rfl) (of_decide_eq_true (by kernel_rfl)) k2_ bel lt2) trodAll_mk0))), rfl, bel.frame _, fun h => by cases h⟩
theorem over : Rows.relaxSureRow.holds Try.pinned (OpenSpec.ofChange Rows.relaxSureSpec) :=
  OpenClaim.holds_of_wide 7 Try.f7 rfl rfl rfl rfl rfl rfl rfl ⟨rfl, rfl, rfl, rfl, rfl⟩ rfl rfl rfl rfl rfl (by kernel_rfl) Try.func7 (by kernel_rfl)
    (of_decide_eq_true (by kernel_rfl)) (by unfold Func.isWrapper; first | (rw [if_pos (by decide +kernel)]; kernel_rfl) | (rw [if_neg (by decide +kernel)]; exact ⟨rfl, rfl⟩))
    (fun os started H enc _ => lifted os started H enc)
theorem proved : Rows.RelaxSureSaid := over
#print axioms proved
end Go.Proofs.Ytacjlaiddnfpdaa.relaxSure
namespace Go.Proofs.Ytacjlaiddnfpdaa
/-- The row, under a short name, for the claim. -/
theorem relaxSure_holds : Rows.RelaxSureSaid := relaxSure.proved
end Go.Proofs.Ytacjlaiddnfpdaa
