-- WRITTEN FOR THIS CLAIM by wip/tools/mp.py, a program of this project that drives the kit's print; the functions that the print does not take are this project's own texts.
import Derived.Test.YtdpodjgggicaoaaFGx0s
import Derived.Test.YtdpodjgggicaoaaFGx1s
import Derived.Test.YtdpodjgggicaoaaFGx2s
import Derived.Test.YtdpodjgggicaoaaFGx3s
import Derived.Test.YtdpodjgggicaoaaFGx4s
namespace Go.Proofs.Ytdpodjgggicaoaa.FG
open Go.RowKit Go.Proofs.YtdpodjgggicaoaaW.PrintWords Go.Proofs.YtdpodjgggicaoaaW.PrintLast Go.Proofs.YtdpodjgggicaoaaW.PrintMore
attribute [local go_sem] max2_int min2_int max_two min_two max_three min_three max_four min_four   -- for this text's walks alone
set_option linter.unusedVariables false
set_option linter.unusedSimpArgs false
def merkhetlaw06_FrameGets_fix (k : Nat) : Option Bool := (merkhetlaw06_fixed.f k).bind fun y => if y = true then some true else none
def merkhetlaw06_FrameGets.f (k : Nat) (l0 : List Int) (a1 a2 : Int) : Option Bool :=
  if (l0.length : Int) > 5000 then merkhetlaw06_FrameGets_fix k
  else (frame_Get.f k l0 a1).bind fun g => (merkhetref06_Get.f k (strOfNums l0) a1).bind fun x =>
    if (strOfNums g.1 = x.1 ∧ g.2.1 = x.2.1) ∧ g.2.2 = x.2.2 ∧ g.1.length ≤ 100000 then ((frame_All.f k l0 a1 a2).bind fun l => (merkhetref06_All.f k (strOfNums l0) a1 a2).bind fun m => (merkhetlaw06_Same.f k l.1 m.1).bind fun y =>
      if (y = true ∧ l.2 = m.2) ∧ l.1.length ≤ 100000 ∧ ∀ b ∈ l.1, b.length ≤ 100000 then merkhetlaw06_FrameGets_fix k else none) else none
theorem merkhetlaw06_FrameGets_fix_mono (k : Nat) : LeO (merkhetlaw06_FrameGets_fix k) (merkhetlaw06_FrameGets_fix (k + 1)) := LeO.bind (merkhetlaw06_fixed.mono _) (fun _ => LeO.refl _)
theorem merkhetlaw06_FrameGets.mono : ∀ a0 a1 a2 k, LeO (merkhetlaw06_FrameGets.f k a0 a1 a2) (merkhetlaw06_FrameGets.f (k + 1) a0 a1 a2) := by
  intro a0 a1 a2 k
  exact LeO.ite (merkhetlaw06_FrameGets_fix_mono k) (LeO.bind (frame_Get.mono _ _ _) (fun _ => LeO.bind (merkhetref06_Get.mono _ _ _) (fun _ => LeO.ite (LeO.bind (frame_All.mono _ _ _ _) (fun _ => LeO.bind (merkhetref06_All.mono _ _ _ _) (fun _ => LeO.bind (merkhetlaw06_Same.mono _ _ _) (fun _ => LeO.ite (merkhetlaw06_FrameGets_fix_mono k) (LeO.refl _))))) (LeO.refl _))))
theorem merkhetlaw06_FrameGets_if {c : Prop} [Decidable c] {o : Option Bool} {r : Bool} (h : (if c then o else none) = some r) : c ∧ o = some r := by
  by_cases hc : c
  · exact ⟨hc, by simpa [hc] using h⟩
  · exact absurd h (by simp [hc])
theorem merkhetlaw06_FrameGets_fx {k : Nat} {r : Bool} (h : merkhetlaw06_FrameGets_fix k = some r) : r = true ∧ merkhetlaw06_fixed.f k = some true := by
  obtain ⟨y, hy, h2⟩ := Option.bind_eq_some_iff.mp h
  obtain ⟨rfl, h3⟩ := merkhetlaw06_FrameGets_if h2
  exact ⟨(Option.some.inj h3).symm, hy⟩
theorem merkhetlaw06_FrameGets_dr {w w' : World} (h : Drawn0 w w') : Below w.heap.size w w' := by
  obtain ⟨m, rfl⟩ := h
  exact pw_below_drewN (Below.refl _ _) m
set_option maxHeartbeats 8000000 in
set_option maxRecDepth 100000 in
theorem merkhetlaw06_FrameGets.calls (k : Nat) (A0 : Option Addr) (c0 : Nat) (l0 : List Int) (a1 a2 : Int) (r : Bool) (w : World) (hr0 : Kd.C (Kd.int .u8) w A0 l0.length l0) (hc0 : l0.length ≤ c0) (h : merkhetlaw06_FrameGets.f k l0 a1 a2 = some r) :
    Calls Try.prog 6 #[.slice A0 l0.length c0, .int .i64 a1, .int .i64 a2] w fun e w' => e = .returned (.bool r) ∧ Below w.heap.size w w' := by
  have HR := Aside0.mk hr0
  have HC := Aside0.mk hc0
  clear hr0 hc0
  unfold merkhetlaw06_FrameGets.f at h
  by_cases c : (l0.length : Int) > 5000
  · rw [if_pos c] at h
    obtain ⟨rfl, hy⟩ := merkhetlaw06_FrameGets_fx h
    have HY := Aside0.mk hy
    clear h hy
    go_enter Try.func6, Try.ntmps6
    go_wp2_with (fail)
    refine (merkhetlaw06_fixed.calls k true _ HY.out).mono ?_
    rintro e w2 ⟨rfl, hb⟩
    have HB2 := Aside0.mk hb
    clear hb
    go_wp2_with (fail)
    go_ret
    exact ⟨rfl, HB2.out⟩
  rw [if_neg c] at h
  obtain ⟨⟨g1, g2, g3⟩, hg, h1⟩ := Option.bind_eq_some_iff.mp h
  obtain ⟨⟨x1, x2, x3⟩, hf, h2⟩ := Option.bind_eq_some_iff.mp h1
  obtain ⟨⟨⟨ha1, ha2⟩, ha3, ha4⟩, h3⟩ := merkhetlaw06_FrameGets_if h2
  have hs1 : strOfNums g1 = x1 := ha1
  have hs2 : g2 = x2 := ha2
  have hs3 : g3 = x3 := ha3
  have hs4 : g1.length ≤ 100000 := ha4
  obtain ⟨⟨l, l2⟩, hl, h4⟩ := Option.bind_eq_some_iff.mp h3
  obtain ⟨⟨m, m2⟩, hm, h5⟩ := Option.bind_eq_some_iff.mp h4
  obtain ⟨y, hsm, h6⟩ := Option.bind_eq_some_iff.mp h5
  obtain ⟨⟨⟨rfl, hb1⟩, hb2, hb3⟩, h7⟩ := merkhetlaw06_FrameGets_if h6
  have hb1 : l2 = m2 := hb1
  obtain ⟨rfl, hy⟩ := merkhetlaw06_FrameGets_fx h7
  subst hs2 hs3 hb1
  have HG := Aside0.mk hg
  have HF := Aside0.mk hf
  have HL := Aside0.mk hl
  have HM := Aside0.mk hm
  have HSM := Aside0.mk (show merkhetlaw06_Same.f k l m = some true from hsm)
  have HS1 := Aside0.mk hs1
  have HY := Aside0.mk hy
  have HG1 := Aside0.mk hs4
  have HL1 := Aside0.mk (show l.length ≤ 100000 from hb2)
  have HL2 := Aside0.mk (show ∀ b ∈ l, b.length ≤ 100000 from hb3)
  have c8b : decide ((5000 : Int) < (l0.length : Int)) = false := decide_eq_false c
  clear h h1 h2 h3 h4 h5 h6 h7 hg hf hl hm hsm hy ha1 ha2 ha3 ha4 hs1 hs4 hb1 hb2 hb3 c
  have hcv := Kd.C_string (P := Try.prog) (A := A0) (c := c0) Try.underlying25 Try.underlying5 Try.underlying9 HR.out
  go_enter Try.func6, Try.ntmps6
  go_wp2_with (fail)
  refine (frame_Get.calls k A0 c0 l0 a1 g1 g2 g3 _ HR.out HC.out HG.out).mono ?_
  rintro e w2 ⟨v1, rfl, hO, hb⟩
  obtain ⟨A1, c1, rfl⟩ := Kd.R_slice hO
  have HO2 := Aside0.mk hO
  have HB2 := Aside0.mk hb
  clear hO hb hcv
  go_wp2_with (fail)
  refine (merkhetref06_Get.calls k (strOfNums l0) a1 x1 g2 g3 _ HF.out).mono ?_
  rintro e w3 ⟨rfl, hb⟩
  have HB3 := Aside0.mk (below_step HB2.out hb)
  have HO3 := Aside0.mk (Kd.R_below HO2.out hb)
  clear hb HO2 HB2
  have hcv1 := Kd.C_string (P := Try.prog) (A := A1) (c := c1) Try.underlying25 Try.underlying5 Try.underlying9 (Kd.R_reads' HO3.out).2.2
  rw [HS1.out] at hcv1
  have hne1 : (x1.toList != x1.toList) = false := bne_self_eq_false _
  have hne2 : (g2 != g2) = false := bne_self_eq_false _
  have hne3 : (g3 != g3) = false := bne_self_eq_false _
  go_wp2_with (fail)
  clear hcv1 hne1 hne2 hne3
  refine (frame_All.calls k A0 c0 l0 a1 a2 l l2 _ (Kd.C_below HR.out HB3.out) HC.out HL.out).mono ?_
  rintro e w4 ⟨v4, rfl, hP, hb⟩
  obtain ⟨A4, c4, rfl⟩ := Kd.R_slice hP
  have HP4 := Aside0.mk (Kd.R_lower hP (below_size HB3.out))
  have HB4 := Aside0.mk (below_step HB3.out hb)
  have HO4 := Aside0.mk (Kd.R_below HO3.out hb)
  clear hb hP HO3 HB3
  go_wp2_with (fail)
  refine (merkhetref06_All.calls k (strOfNums l0) a1 a2 m l2 _ HM.out).mono ?_
  rintro e w5 ⟨v5, rfl, hQ, hb⟩
  obtain ⟨A5, c5, rfl⟩ := Kd.R_slice hQ
  have HP5 := Aside0.mk (Kd.R_below HP4.out hb)
  have HB5 := Aside0.mk (below_step HB4.out hb)
  have HO5 := Aside0.mk (Kd.R_below HO4.out hb)
  have HQ5 := Aside0.mk (Kd.R_reads' hQ)
  clear hb hQ HO4 HB4 HP4
  go_wp2_with (fail)
  refine (merkhetlaw06_Same.calls k A4 c4 l A5 c5 m true _ (Kd.R_reads' HP5.out).2.2 (Kd.R_reads' HP5.out).2.1 HQ5.out.2.2 HQ5.out.2.1 HSM.out).mono ?_
  rintro e w6 ⟨rfl, hd⟩
  have hb := merkhetlaw06_FrameGets_dr hd
  have HB6 := Aside0.mk (below_step HB5.out hb)
  have HUX := Aside0.mk (Go.Proofs.Ytdpodjgggicaoaa.H.u8row_R (Kd.R_below HO5.out hb) (Nat.le_trans HG1.out (by decide)))
  obtain ⟨A, cc, e, hrow⟩ := Go.Proofs.Ytdpodjgggicaoaa.H.u8rows (Kd.R_below HP5.out hb) (fun x hx => Nat.le_trans (HL2.out x hx) (by decide))
  injection e with ea _ ec
  subst ea ec
  have HROW := Aside0.mk hrow
  have HUX' := Aside0.mk (show Go.Proofs.Ytdpodjgggicaoaa.H.U8Row 5 w6 w.heap.size (.slice A1 g1.length c1) g1.length by
    first | exact HUX.out | (obtain ⟨A_, c_, e_, h1_, h2_⟩ := HUX.out; refine ⟨A_, c_, e_, h1_, fun hp => ?_⟩; obtain ⟨g_, h3_, h4_, h5_⟩ := h2_ hp; exact ⟨g_, h3_, Nat.le_trans (by have := HB5.out.size; omega) h4_, h5_⟩))
  have hnl2 : (l2 == l2) = true := beq_self_eq_true _
  clear hb hd hrow HUX HB5 HO5 HP5 HQ5 HSM HG HF HL HM
  go_wp2_with (fail)
  clear hnl2
  go_loopg [81] g1.length (fun d v81 wr => ∃ (i : Nat), i + d = g1.length ∧ v81 = .int .i64 i ∧ Aside0 (Below w.heap.size w wr) ∧ Aside0 (Go.Proofs.Ytdpodjgggicaoaa.H.U8Keep 5 w6 wr))
  case atStart => exact ⟨0, by omega, rfl, HB6, ⟨Go.Proofs.Ytdpodjgggicaoaa.H.u8keep_refl _ _⟩⟩
  case round =>
    clear HB6
    obtain ⟨i, hi, rfl, HB, HU⟩ := hrel
    by_cases hlt : i < g1.length
    · have hltz : (i : Int) < (g1.length : Int) := by omega
      have hi9 : (i : Int) < 100000 := by have := HG1.out; omega
      obtain ⟨g7, x, rfl, hb7, hcur, hcell, hfz, hl7⟩ := Go.Proofs.Ytdpodjgggicaoaa.H.u8row_cell HUX'.out HU.out i hlt
      have HBN := Aside0.mk (show Below w.heap.size w (wr.setCell ⟨g7, i, none⟩ (.int .u8 (IntKind.u8.wrap (x + 1)))) from below_set HB.out hb7)
      have HUN := Aside0.mk (Go.Proofs.Ytdpodjgggicaoaa.H.u8keep_set (j := i) (y := IntKind.u8.wrap (x + 1)) HU.out hcur)
      clear hcur
      go_wp2_with (fail)
      go_roundg (g1.length - (i + 1))
      case measure => omega
      case rel => exact ⟨i + 1, by omega, by go_num, HBN, HUN⟩
    · have hltz : ¬ (i : Int) < (g1.length : Int) := by omega
      go_wp2_with (fail)
      go_loopg [93] l.length (fun d v93 wr => ∃ (i : Nat), i + d = l.length ∧ v93 = .int .i64 i ∧ Aside0 (Below w.heap.size w wr) ∧ Aside0 (Go.Proofs.Ytdpodjgggicaoaa.H.U8Keep 5 w6 wr))
      case atStart => exact ⟨0, by omega, rfl, HB, HU⟩
      case round =>
        clear HB HU hlt hltz hi
        obtain ⟨i, hi, rfl, HB, HU⟩ := hrel
        by_cases hlt : i < l.length
        · have hltz : (i : Int) < (l.length : Int) := by omega
          obtain ⟨g, rfl, cells, hcells, hel⟩ := HROW.out (by omega)
          obtain ⟨u, hu, hur⟩ := hel i hlt
          have hnl := HL2.out _ (List.getElem_mem hlt)
          have hx : wr.cell? ⟨g, i, none⟩ = some u := by rw [← hu, ← blk_cell hcells i]; exact World.cell?_of_block (Go.Proofs.Ytdpodjgggicaoaa.H.u8keep_other HU.out hcells (by decide))
          generalize l[i].length = n at hur hnl
          obtain ⟨A7, c7, rfl, _⟩ := id hur
          have HUR := Aside0.mk hur
          have HNL := Aside0.mk hnl
          have hi9 : (i : Int) < 100000 := by have := HL1.out; omega
          clear hcells hel hu hur hnl
          go_wp2_with (fail)
          clear hx
          go_loopg [99] n (fun d v99 wq => ∃ (j : Nat), j + d = n ∧ v99 = .int .i64 j ∧ Aside0 (Below w.heap.size w wq) ∧ Aside0 (Go.Proofs.Ytdpodjgggicaoaa.H.U8Keep 5 w6 wq))
          case atStart => exact ⟨0, by omega, rfl, HB, HU⟩
          case round =>
            clear HB HU
            obtain ⟨j, hj, rfl, HB, HU⟩ := hrel
            by_cases hjt : j < n
            · have hjz : (j : Int) < (n : Int) := by omega
              obtain ⟨g7, x, rfl, hb7, hcur, hcell, hfz, hl7⟩ := Go.Proofs.Ytdpodjgggicaoaa.H.u8row_cell HUR.out HU.out j hjt
              have hj9 : (j : Int) < 100000 := by have := HNL.out; omega
              have HBN := Aside0.mk (show Below w.heap.size w (wr.setCell ⟨g7, j, none⟩ (.int .u8 (IntKind.u8.wrap (x + 1)))) from below_set HB.out hb7)
              have HUN := Aside0.mk (Go.Proofs.Ytdpodjgggicaoaa.H.u8keep_set (j := j) (y := IntKind.u8.wrap (x + 1)) HU.out hcur)
              clear hcur
              go_wp2_with (fail)
              go_roundg (n - (j + 1))
              case measure => omega
              case rel => exact ⟨j + 1, by omega, by go_num, HBN, HUN⟩
            · have hjz : ¬ (j : Int) < (n : Int) := by omega
              go_wp2_with (fail)
              go_roundg (l.length - (i + 1))
              case measure => omega
              case rel => exact ⟨i + 1, by omega, by go_num, HB, HU⟩
        · have hltz : ¬ (i : Int) < (l.length : Int) := by omega
          go_wp2_with (fail)
          refine (merkhetlaw06_fixed.calls k true _ HY.out).mono ?_
          rintro e w7 ⟨rfl, hb⟩
          have HB7 := Aside0.mk (below_step HB.out hb)
          have hcv2 := Kd.C_string (P := Try.prog) (A := A0) (c := c0) Try.underlying25 Try.underlying5 Try.underlying9 (Kd.C_below HR.out HB7.out)
          clear hb
          go_wp2_with (fail)
          go_ret
          exact ⟨rfl, HB7.out⟩
def merkhetlaw06_FrameGets.Pure : Prop := ∀ (l0 : List Int) (a1 : Int) (a2 : Int), l0.length ≤ maxLen → l0.length * 1 ≤ 140737488351232 → (∀ x0_ ∈ l0, (Lit.int .u8 x0_).wf = true) → (Lit.int .i64 a1).wf = true → (Lit.int .i64 a2).wf = true → ∃ k, merkhetlaw06_FrameGets.f k l0 a1 a2 = some true
end Go.Proofs.Ytdpodjgggicaoaa.FG
