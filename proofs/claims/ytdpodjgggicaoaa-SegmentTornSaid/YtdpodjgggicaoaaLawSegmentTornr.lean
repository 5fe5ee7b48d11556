-- WRITTEN FOR THIS CLAIM by wip/tools/mp.py, a program of this project that drives the kit's print; the functions that the print does not take are this project's own texts.
import Derived.Test.YtdpodjgggicaoaaRows
import Derived.Test.YtdpodjgggicaoaaSOx7r
import Derived.Test.YtdpodjgggicaoaaPureSegmentTornr
import Derived.Test.YtdpodjgggicaoaaH2r
import Derived.WalkKit
import Derived.ProofKit
import Derived.OpenShut
import Derived.ShutString
import Derived.ChangeOld
import Derived.Below
import Derived.SizedLaws
import Derived.Test.YtdpodjgggicaoaaWSizedr
namespace Go.Proofs.Ytdpodjgggicaoaa.segmentTorn
open Go.ChangeShapes Go.WideShapes Go.ChangeAt Go.RowKit Go.Proofs.Ytdpodjgggicaoaa.SO Go.Proofs.YtdpodjgggicaoaaW.PrintWords
open Go.ChangeMaps (open_string shut_string)
set_option linter.unusedVariables false
theorem own : ownKnob Try.prog.godebug = none := by kernel_rfl
theorem laidOut : laidOutB Try.prog = true := by kernel_rfl
set_option maxRecDepth 100000 in
theorem opens77 (W : World) : Go.Proofs.Ytdpodjgggicaoaa.H.Opens Try.prog W k77 77 (fun x => ((Lit.int .u64 x.f0).wf = true ∧ (Lit.int .u64 x.f1).wf = true ∧ (Lit.int .u64 x.f2).wf = true ∧ (Lit.int .u8 x.f3).wf = true ∧ x.f4.size ≤ maxLen ∧ x.f5.size ≤ maxLen ∧ (Lit.int .i64 x.f6).wf = true ∧ (Lit.int .i64 x.f7).wf = true)) := by
  refine ⟨by kernel_rfl, ?_⟩
  intro H enc base spare held fuel cs x h
  obtain ⟨xs, n, _, _, hl0, hlen, hg⟩ := DataW.trod_struct Try.underlying77 h
  have hl : cs.length = 8 := hl0.trans (by kernel_rfl)
  match cs, hl with
  | [c0, c1, c2, c3, c4, c5, c6, c7], _ =>
  have hx : xs.length = 8 := hlen
  match xs, hx with
  | [y0, y1, y2, y3, y4, y5, y6, y7], _ =>
  have h0 : DataW.trod enc Try.prog W base spare held n 75 [c0] = some y0 := by have h_ := hg 0 _ rfl; rw [show Try.prog.cellsOf _ = 1 from by kernel_rfl] at h_; exact h_
  have h1 : DataW.trod enc Try.prog W base spare held n 75 [c1] = some y1 := by have h_ := hg 1 _ rfl; rw [show Try.prog.cellsOf _ = 1 from by kernel_rfl] at h_; exact h_
  have h2 : DataW.trod enc Try.prog W base spare held n 75 [c2] = some y2 := by have h_ := hg 2 _ rfl; rw [show Try.prog.cellsOf _ = 1 from by kernel_rfl] at h_; exact h_
  have h3 : DataW.trod enc Try.prog W base spare held n 5 [c3] = some y3 := by have h_ := hg 3 _ rfl; rw [show Try.prog.cellsOf _ = 1 from by kernel_rfl] at h_; exact h_
  have h4 : DataW.trod enc Try.prog W base spare held n 9 [c4] = some y4 := by have h_ := hg 4 _ rfl; rw [show Try.prog.cellsOf _ = 1 from by kernel_rfl] at h_; exact h_
  have h5 : DataW.trod enc Try.prog W base spare held n 9 [c5] = some y5 := by have h_ := hg 5 _ rfl; rw [show Try.prog.cellsOf _ = 1 from by kernel_rfl] at h_; exact h_
  have h6 : DataW.trod enc Try.prog W base spare held n 2 [c6] = some y6 := by have h_ := hg 6 _ rfl; rw [show Try.prog.cellsOf _ = 1 from by kernel_rfl] at h_; exact h_
  have h7 : DataW.trod enc Try.prog W base spare held n 2 [c7] = some y7 := by have h_ := hg 7 _ rfl; rw [show Try.prog.cellsOf _ = 1 from by kernel_rfl] at h_; exact h_
  obtain ⟨v0, K0, w0⟩ := ((Go.Proofs.Ytdpodjgggicaoaa.H.opens_int Try.underlying75 (by kernel_rfl)) : Go.Proofs.Ytdpodjgggicaoaa.H.Opens Try.prog W (Kd.int .u64) 75 _).op enc base spare held n [c0] _ h0
  obtain rfl := (List.cons.inj (show [c0] = [_] from K0)).1
  obtain ⟨v1, K1, w1⟩ := ((Go.Proofs.Ytdpodjgggicaoaa.H.opens_int Try.underlying75 (by kernel_rfl)) : Go.Proofs.Ytdpodjgggicaoaa.H.Opens Try.prog W (Kd.int .u64) 75 _).op enc base spare held n [c1] _ h1
  obtain rfl := (List.cons.inj (show [c1] = [_] from K1)).1
  obtain ⟨v2, K2, w2⟩ := ((Go.Proofs.Ytdpodjgggicaoaa.H.opens_int Try.underlying75 (by kernel_rfl)) : Go.Proofs.Ytdpodjgggicaoaa.H.Opens Try.prog W (Kd.int .u64) 75 _).op enc base spare held n [c2] _ h2
  obtain rfl := (List.cons.inj (show [c2] = [_] from K2)).1
  obtain ⟨v3, K3, w3⟩ := ((Go.Proofs.Ytdpodjgggicaoaa.H.opens_int Try.underlying5 (by kernel_rfl)) : Go.Proofs.Ytdpodjgggicaoaa.H.Opens Try.prog W (Kd.int .u8) 5 _).op enc base spare held n [c3] _ h3
  obtain rfl := (List.cons.inj (show [c3] = [_] from K3)).1
  obtain ⟨v4, K4, w4⟩ := ((Go.Proofs.Ytdpodjgggicaoaa.H.opens_string Try.underlying9 (by kernel_rfl)) : Go.Proofs.Ytdpodjgggicaoaa.H.Opens Try.prog W Kd.string 9 _).op enc base spare held n [c4] _ h4
  obtain rfl := (List.cons.inj (show [c4] = [_] from K4)).1
  obtain ⟨v5, K5, w5⟩ := ((Go.Proofs.Ytdpodjgggicaoaa.H.opens_string Try.underlying9 (by kernel_rfl)) : Go.Proofs.Ytdpodjgggicaoaa.H.Opens Try.prog W Kd.string 9 _).op enc base spare held n [c5] _ h5
  obtain rfl := (List.cons.inj (show [c5] = [_] from K5)).1
  obtain ⟨v6, K6, w6⟩ := ((Go.Proofs.Ytdpodjgggicaoaa.H.opens_int Try.underlying2 (by kernel_rfl)) : Go.Proofs.Ytdpodjgggicaoaa.H.Opens Try.prog W (Kd.int .i64) 2 _).op enc base spare held n [c6] _ h6
  obtain rfl := (List.cons.inj (show [c6] = [_] from K6)).1
  obtain ⟨v7, K7, w7⟩ := ((Go.Proofs.Ytdpodjgggicaoaa.H.opens_int Try.underlying2 (by kernel_rfl)) : Go.Proofs.Ytdpodjgggicaoaa.H.Opens Try.prog W (Kd.int .i64) 2 _).op enc base spare held n [c7] _ h7
  obtain rfl := (List.cons.inj (show [c7] = [_] from K7)).1
  exact ⟨⟨v0, v1, v2, v3, v4, v5, v6, v7⟩, k77_mk W ⟨v0, v1, v2, v3, v4, v5, v6, v7⟩ , ⟨w0, w1, w2, w3, w4, w5, w6, w7⟩⟩
set_option maxRecDepth 100000 in
set_option maxHeartbeats 1000000 in
theorem lifted (os : Os) (started : os.Started) (H : Type) (enc : TypeId × Value → H) :
    ReturnsInHanded {} Try.checked os 14 .any (Rows.segmentTornSpec.pre6 enc Try.prog Try.f14 Rows.segmentTornRow.domain false) (Rows.segmentTornSpec.post enc Try.prog Try.f14 false true false false) := by
  refine returnsInHanded_of_change_sized (C := Try.checked) own started (by kernel_rfl) Try.func14
    (ChangeSpec.witness6 (enc := enc) (C := Try.checked) false ⟨#[], #[.slice none 0 0, .int .u8 0, .int .u16 0], []⟩ 8 (by kernel_rfl) (by kernel_rfl) (by kernel_rfl) (by kernel_rfl)) ?_
  intro W base args ds gs before hval0 hW hcnd hsz0 _
  have hsz : (DataW.weightsEach Try.prog (Try.f14.params.toList ++ Rows.segmentTornSpec.plain.varTypes Try.prog) (ds ++ gs)).all (· ≤ reachBytes) = true := hsz0
  have hval : ∀ (j : Nat) t v, Try.f14.params[j]? = some t → args[j]? = some v → Value.okWide Try.prog W .any base t v := hval0
  have hW' := hW
  obtain ⟨p, q, hA0, hV, rfl, hfz, hnd⟩ := hW
  have hA : DataW.TrodAll enc Try.prog W 0 (fun _ => true) true Try.f14.params.toList args.toList ds p := hA0
  rw [Try.params14] at hA hval hsz
  obtain ⟨v0, vs0, d0, ds0, p0, q0, hargs, rfl, rfl, h0, r0⟩ := trodAll_cons hA
  obtain ⟨v1, vs1, d1, ds1, p1, q1, rfl, rfl, rfl, h1, r1⟩ := trodAll_cons r0
  obtain ⟨v2, vs2, d2, ds2, p2, q2, rfl, rfl, rfl, h2, r2⟩ := trodAll_cons r1
  obtain ⟨rfl, rfl, rfl⟩ := trodAll_nil r2
  obtain rfl : args = #[v0, v1, v2] := by cases args; simp_all
  obtain ⟨rfl, rfl⟩ := trodVars_none hV
  have lt0 : ∀ x ∈ p0, x.block < W.heap.size := by obtain ⟨m, hm⟩ := h0; exact DataW.trod_lt m _ _ _ hm
  have k0_ := h0
  obtain ⟨A0, l0, c0, rfl, hr0, hc0, w0⟩ := Go.Proofs.Ytdpodjgggicaoaa.H.open_sl Try.underlying74 (Go.Proofs.Ytdpodjgggicaoaa.H.opens_slice Try.underlying22 (by kernel_rfl) (opens77 _)) (hval 0 74 v0 rfl rfl) h0
  obtain ⟨a1, rfl, rfl, rfl, w1⟩ := open_int Try.underlying5 (hval 1 5 v1 rfl rfl) h1
  obtain ⟨a2, rfl, rfl, rfl, w2⟩ := open_int Try.underlying36 (hval 2 36 v2 rfl rfl) h2
  clear hA0 hval0 hsz0 hsz
  obtain ⟨k, hp⟩ := Pure.SegmentTorn l0 a1 a2 (Kd.C_max hr0) w0 w1 w2
  refine (merkhetlaw07_SegmentTorn.calls k _ _ l0 a1 a2 true W hr0 hc0 hp).mono ?_
  rintro e W' ⟨rfl, hd_⟩
  have bel : Below W.heap.size W W' := hd_
  exact ⟨_, rfl, _, _, _, [], _, [], hW', trodAll_mk1 (shut_bool Try.underlying4 _), (trodAll_cons_mk (Below.trod laidOut (by kernel_rfl) (of_decide_eq_true (by kernel_rfl)) k0_ bel lt0) (trodAll_cons_mk (shut_int Try.underlying5 w1) (trodAll_cons_mk (shut_int Try.underlying36 w2) trodAll_mk0))), rfl, bel.frame _, fun h => by cases h⟩
theorem over : Rows.segmentTornRow.holds Try.pinned (OpenSpec.ofChange Rows.segmentTornSpec) :=
  OpenClaim.holds_of_wide 14 Try.f14 rfl rfl rfl rfl rfl rfl rfl ⟨rfl, rfl, rfl, rfl, rfl⟩ rfl rfl rfl rfl rfl (by kernel_rfl) Try.func14 (by kernel_rfl)
    (of_decide_eq_true (by kernel_rfl)) (by unfold Func.isWrapper; first | (rw [if_pos (by decide +kernel)]; kernel_rfl) | (rw [if_neg (by decide +kernel)]; exact ⟨rfl, rfl⟩))
    (fun os started H enc _ => lifted os started H enc)
theorem proved : Rows.SegmentTornSaid := over
#print axioms proved
end Go.Proofs.Ytdpodjgggicaoaa.segmentTorn
namespace Go.Proofs.Ytdpodjgggicaoaa
theorem segmentTorn_holds : Rows.SegmentTornSaid := segmentTorn.proved
end Go.Proofs.Ytdpodjgggicaoaa
