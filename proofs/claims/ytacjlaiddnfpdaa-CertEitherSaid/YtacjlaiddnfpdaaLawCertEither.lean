-- WRITTEN FOR THIS CLAIM by wip/tools/mp.py, a program of this project that drives the kit's print; the functions that the print does not take are this project's own texts.
import Derived.Test.YtacjlaiddnfpdaaRows
import Derived.Test.YtacjlaiddnfpdaaCEx8
import Derived.Test.YtacjlaiddnfpdaaPureCertEither
import Derived.Test.YtacjlaiddnfpdaaH2
import Derived.WalkKit
import Derived.ProofKit
import Derived.OpenShut
import Derived.ShutString
import Derived.ChangeOld
import Derived.Below
import Derived.SizedLaws
import Derived.Test.YtacjlaiddnfpdaaWSized
namespace Go.Proofs.Ytacjlaiddnfpdaa.certEither
open Go.ChangeShapes Go.WideShapes Go.ChangeAt Go.RowKit Go.Proofs.Ytacjlaiddnfpdaa.CE Go.Proofs.YtacjlaiddnfpdaaW.PrintWords
open Go.ChangeMaps (open_string shut_string)
set_option linter.unusedVariables false
theorem own : ownKnob Try.prog.godebug = none := by kernel_rfl
theorem laidOut : laidOutB Try.prog = true := by kernel_rfl
set_option maxRecDepth 100000 in
theorem opens46 (W : World) : Go.Proofs.Ytacjlaiddnfpdaa.H.Opens Try.prog W k46 46 (fun x => ((Lit.int .i64 x.f0).wf = true ∧ (Lit.int .i64 x.f1).wf = true)) := by
  refine ⟨by kernel_rfl, ?_⟩
  intro H enc base spare held fuel cs x h
  obtain ⟨xs, n, _, _, hl0, hlen, hg⟩ := DataW.trod_struct Try.underlying46 h
  have hl : cs.length = 2 := hl0.trans (by kernel_rfl)
  match cs, hl with
  | [c0, c1], _ =>
  have hx : xs.length = 2 := hlen
  match xs, hx with
  | [y0, y1], _ =>
  have h0 : DataW.trod enc Try.prog W base spare held n 3 [c0] = some y0 := by have h_ := hg 0 _ rfl; rw [show Try.prog.cellsOf _ = 1 from by kernel_rfl] at h_; exact h_
  have h1 : DataW.trod enc Try.prog W base spare held n 3 [c1] = some y1 := by have h_ := hg 1 _ rfl; rw [show Try.prog.cellsOf _ = 1 from by kernel_rfl] at h_; exact h_
  obtain ⟨v0, K0, w0⟩ := ((Go.Proofs.Ytacjlaiddnfpdaa.H.opens_int Try.underlying3 (by kernel_rfl)) : Go.Proofs.Ytacjlaiddnfpdaa.H.Opens Try.prog W (Kd.int .i64) 3 _).op enc base spare held n [c0] _ h0
  obtain rfl := (List.cons.inj (show [c0] = [_] from K0)).1
  obtain ⟨v1, K1, w1⟩ := ((Go.Proofs.Ytacjlaiddnfpdaa.H.opens_int Try.underlying3 (by kernel_rfl)) : Go.Proofs.Ytacjlaiddnfpdaa.H.Opens Try.prog W (Kd.int .i64) 3 _).op enc base spare held n [c1] _ h1
  obtain rfl := (List.cons.inj (show [c1] = [_] from K1)).1
  exact ⟨⟨v0, v1⟩, k46_mk W ⟨v0, v1⟩ , ⟨w0, w1⟩⟩
set_option maxRecDepth 100000 in
theorem opens48 (W : World) : Go.Proofs.Ytacjlaiddnfpdaa.H.Opens Try.prog W k48 48 (fun x => ((Lit.int .i64 x.f0).wf = true ∧ (Lit.int .i64 x.f1).wf = true ∧ (Lit.int .i64 x.f2).wf = true ∧ ((Lit.int .i64 x.f3.f0).wf = true ∧ (Lit.int .i64 x.f3.f1).wf = true) ∧ True)) := by
  refine ⟨by kernel_rfl, ?_⟩
  intro H enc base spare held fuel cs x h
  obtain ⟨xs, n, _, _, hl0, hlen, hg⟩ := DataW.trod_struct Try.underlying48 h
  have hl : cs.length = 6 := hl0.trans (by kernel_rfl)
  match cs, hl with
  | [c0, c1, c2, c3, c4, c5], _ =>
  have hx : xs.length = 5 := hlen
  match xs, hx with
  | [y0, y1, y2, y3, y4], _ =>
  have h0 : DataW.trod enc Try.prog W base spare held n 3 [c0] = some y0 := by have h_ := hg 0 _ rfl; rw [show Try.prog.cellsOf _ = 1 from by kernel_rfl] at h_; exact h_
  have h1 : DataW.trod enc Try.prog W base spare held n 3 [c1] = some y1 := by have h_ := hg 1 _ rfl; rw [show Try.prog.cellsOf _ = 1 from by kernel_rfl] at h_; exact h_
  have h2 : DataW.trod enc Try.prog W base spare held n 2 [c2] = some y2 := by have h_ := hg 2 _ rfl; rw [show Try.prog.cellsOf _ = 1 from by kernel_rfl] at h_; exact h_
  have h3 : DataW.trod enc Try.prog W base spare held n 46 [c3, c4] = some y3 := by have h_ := hg 3 _ rfl; rw [show Try.prog.cellsOf _ = 2 from by kernel_rfl] at h_; exact h_
  have h4 : DataW.trod enc Try.prog W base spare held n 4 [c5] = some y4 := by have h_ := hg 4 _ rfl; rw [show Try.prog.cellsOf _ = 1 from by kernel_rfl] at h_; exact h_
  obtain ⟨v0, K0, w0⟩ := ((Go.Proofs.Ytacjlaiddnfpdaa.H.opens_int Try.underlying3 (by kernel_rfl)) : Go.Proofs.Ytacjlaiddnfpdaa.H.Opens Try.prog W (Kd.int .i64) 3 _).op enc base spare held n [c0] _ h0
  obtain rfl := (List.cons.inj (show [c0] = [_] from K0)).1
  obtain ⟨v1, K1, w1⟩ := ((Go.Proofs.Ytacjlaiddnfpdaa.H.opens_int Try.underlying3 (by kernel_rfl)) : Go.Proofs.Ytacjlaiddnfpdaa.H.Opens Try.prog W (Kd.int .i64) 3 _).op enc base spare held n [c1] _ h1
  obtain rfl := (List.cons.inj (show [c1] = [_] from K1)).1
  obtain ⟨v2, K2, w2⟩ := ((Go.Proofs.Ytacjlaiddnfpdaa.H.opens_int Try.underlying2 (by kernel_rfl)) : Go.Proofs.Ytacjlaiddnfpdaa.H.Opens Try.prog W (Kd.int .i64) 2 _).op enc base spare held n [c2] _ h2
  obtain rfl := (List.cons.inj (show [c2] = [_] from K2)).1
  obtain ⟨v3, K3, w3⟩ := ((opens46 _) : Go.Proofs.Ytacjlaiddnfpdaa.H.Opens Try.prog W k46 46 _).op enc base spare held n [c3, c4] _ h3
  have E3 := k46_open K3
  obtain rfl := (List.cons.inj E3).1
  replace E3 := (List.cons.inj E3).2
  obtain rfl := (List.cons.inj E3).1
  obtain ⟨v4, K4, w4⟩ := ((Go.Proofs.Ytacjlaiddnfpdaa.H.opens_bool Try.underlying4 (by kernel_rfl)) : Go.Proofs.Ytacjlaiddnfpdaa.H.Opens Try.prog W Kd.bool 4 _).op enc base spare held n [c5] _ h4
  obtain rfl := (List.cons.inj (show [c5] = [_] from K4)).1
  exact ⟨⟨v0, v1, v2, v3, v4⟩, k48_mk W ⟨v0, v1, v2, v3, v4⟩ , ⟨w0, w1, w2, w3, trivial⟩⟩
set_option maxRecDepth 100000 in
set_option maxHeartbeats 1000000 in
theorem lifted (os : Os) (started : os.Started) (H : Type) (enc : TypeId × Value → H) :
    ReturnsInHanded {} Try.checked os 14 .any (Rows.certEitherSpec.pre6 enc Try.prog Try.f14 Rows.certEitherRow.domain false) (Rows.certEitherSpec.post enc Try.prog Try.f14 false true false false) := by
  refine returnsInHanded_of_change_sized (C := Try.checked) own started (by kernel_rfl) Try.func14
    (ChangeSpec.witness6 (enc := enc) (C := Try.checked) false ⟨#[], #[.int .i64 0, .slice none 0 0], []⟩ 8 (by kernel_rfl) (by kernel_rfl) (by kernel_rfl) (by kernel_rfl)) ?_
  intro W base args ds gs before hval0 hW hcnd hsz0 _
  have hsz : (DataW.weightsEach Try.prog (Try.f14.params.toList ++ Rows.certEitherSpec.plain.varTypes Try.prog) (ds ++ gs)).all (· ≤ reachBytes) = true := hsz0
  have hval : ∀ (j : Nat) t v, Try.f14.params[j]? = some t → args[j]? = some v → Value.okWide Try.prog W .any base t v := hval0
  have hW' := hW
  obtain ⟨p, q, hA0, hV, rfl, hfz, hnd⟩ := hW
  have hA : DataW.TrodAll enc Try.prog W 0 (fun _ => true) true Try.f14.params.toList args.toList ds p := hA0
  rw [Try.params14] at hA hval hsz
  obtain ⟨v0, vs0, d0, ds0, p0, q0, hargs, rfl, rfl, h0, r0⟩ := trodAll_cons hA
  obtain ⟨v1, vs1, d1, ds1, p1, q1, rfl, rfl, rfl, h1, r1⟩ := trodAll_cons r0
  obtain ⟨rfl, rfl, rfl⟩ := trodAll_nil r1
  obtain rfl : args = #[v0, v1] := by cases args; simp_all
  obtain ⟨rfl, rfl⟩ := trodVars_none hV
  have lt1 : ∀ x ∈ p1, x.block < W.heap.size := by obtain ⟨m, hm⟩ := h1; exact DataW.trod_lt m _ _ _ hm
  obtain ⟨a0, rfl, rfl, rfl, w0⟩ := open_int Try.underlying3 (hval 0 3 v0 rfl rfl) h0
  have k1_ := h1
  obtain ⟨A1, l1, c1, rfl, hr1, hc1, w1⟩ := Go.Proofs.Ytacjlaiddnfpdaa.H.open_sl Try.underlying22 (opens48 _) (hval 1 22 v1 rfl rfl) h1
  clear hA0 hval0 hsz0 hsz
  obtain ⟨k, hp⟩ := Pure.CertEither a0 l1 w0 (Kd.C_max hr1) w1
  refine (merkhetlaw17_CertEither.calls k a0 _ _ l1 true W hr1 hc1 hp).mono ?_
  rintro e W' ⟨rfl, hd_⟩
  have bel : Below W.heap.size W W' := hd_
  exact ⟨_, rfl, _, _, _, [], _, [], hW', trodAll_mk1 (shut_bool Try.underlying4 _), (trodAll_cons_mk (shut_int Try.underlying3 w0) (trodAll_cons_mk (Below.trod laidOut (by kernel_rfl) (of_decide_eq_true (by kernel_rfl)) k1_ bel lt1) trodAll_mk0)), rfl, bel.frame _, fun h => by cases h⟩
theorem over : Rows.certEitherRow.holds Try.pinned (OpenSpec.ofChange Rows.certEitherSpec) :=
  OpenClaim.holds_of_wide 14 Try.f14 rfl rfl rfl rfl rfl rfl rfl ⟨rfl, rfl, rfl, rfl, rfl⟩ rfl rfl rfl rfl rfl (by kernel_rfl) Try.func14 (by kernel_rfl)
    (of_decide_eq_true (by kernel_rfl)) (by unfold Func.isWrapper; first | (rw [if_pos (by decide +kernel)]; kernel_rfl) | (rw [if_neg (by decide +kernel)]; exact ⟨rfl, rfl⟩))
    (fun os started H enc _ => lifted os started H enc)
theorem proved : Rows.CertEitherSaid := over
#print axioms proved
end Go.Proofs.Ytacjlaiddnfpdaa.certEither
namespace Go.Proofs.Ytacjlaiddnfpdaa
/-- The row, under a short name, for the claim. -/
theorem certEither_holds : Rows.CertEitherSaid := certEither.proved
end Go.Proofs.Ytacjlaiddnfpdaa
