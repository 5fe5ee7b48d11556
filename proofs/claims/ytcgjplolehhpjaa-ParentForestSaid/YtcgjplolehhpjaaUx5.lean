-- WRITTEN FOR THIS CLAIM by wip/tools/mp.py, a program of this project that drives the kit's print; the functions that the print does not take are this project's own texts.
import Derived.Test.YtcgjplolehhpjaaUx0
import Derived.Test.YtcgjplolehhpjaaUx1
import Derived.Test.YtcgjplolehhpjaaUx4
namespace Go.Proofs.Ytcgjplolehhpjaa.U
open Go.RowKit Go.Proofs.YtcgjplolehhpjaaW.PrintWords Go.Proofs.YtcgjplolehhpjaaW.PrintLast Go.Proofs.YtcgjplolehhpjaaW.PrintMore
attribute [local go_sem] max2_int min2_int max_two min_two max_three min_three max_four min_four   -- for this text's walks alone
set_option linter.unusedVariables false
set_option linter.unusedSimpArgs false

/-! ### merkhetlaw10_ParentForest: function 8 -/
def merkhetlaw10_ParentForest_go (k : Nat) (l0 : List S37) : List Int → Nat → Option Bool
  | [], _ => (merkhetlaw10_fixed.f k).bind fun y => if y = true then some true else none
  | kk :: rest, i => if (-1 ≤ kk ∧ kk < (l0.length : Int)) ∧ i < l0.length then
      (if 0 ≤ kk then (if (rd_T37 l0 kk).f1 = (rd_T37 l0 (i : Int)).f2 then merkhetlaw10_ParentForest_go k l0 rest (i + 1) else none)
      else (if (rd_T37 l0 (i : Int)).f2 = 0 then merkhetlaw10_ParentForest_go k l0 rest (i + 1)
      else (if (l0.any fun s => s.f1 == (rd_T37 l0 (i : Int)).f2) = true then (merkhetlaw10_loop.f k l0 (i : Int)).bind fun b => if b = true then merkhetlaw10_ParentForest_go k l0 rest (i + 1) else none else merkhetlaw10_ParentForest_go k l0 rest (i + 1))))
    else none
theorem merkhetlaw10_ParentForest_go_mono (k : Nat) (l0 : List S37) : ∀ (r : List Int) (i : Nat), LeO (merkhetlaw10_ParentForest_go k l0 r i) (merkhetlaw10_ParentForest_go (k + 1) l0 r i)
  | [], _ => LeO.bind (merkhetlaw10_fixed.mono _) (fun _ => LeO.refl _)
  | kk :: r, i => LeO.ite (LeO.ite (LeO.ite (merkhetlaw10_ParentForest_go_mono k l0 r (i + 1)) (LeO.refl _)) (LeO.ite (merkhetlaw10_ParentForest_go_mono k l0 r (i + 1)) (LeO.ite (LeO.bind (merkhetlaw10_loop.mono _ _ _) (fun _ => LeO.ite (merkhetlaw10_ParentForest_go_mono k l0 r (i + 1)) (LeO.refl _))) (merkhetlaw10_ParentForest_go_mono k l0 r (i + 1))))) (LeO.refl _)
def merkhetlaw10_ParentForest.f (k : Nat) (l0 : List S37) : Option Bool :=
  if (l0.length : Int) > 60 then ((merkhetlaw10_fixed.f k).bind fun y => if y = true then some true else none)
  else (parent_Of.f k l0).bind fun p => if p.length = l0.length then (parent_Right.f k p).bind fun b => if b = true then merkhetlaw10_ParentForest_go k l0 p 0 else none else none
theorem merkhetlaw10_ParentForest.mono : ∀ a0 k, LeO (merkhetlaw10_ParentForest.f k a0) (merkhetlaw10_ParentForest.f (k + 1) a0) := by
  intro a0 k
  exact LeO.ite (LeO.bind (merkhetlaw10_fixed.mono _) (fun _ => LeO.refl _)) (LeO.bind (parent_Of.mono _ _) (fun _ => LeO.ite (LeO.bind (parent_Right.mono _ _) (fun _ => LeO.ite (merkhetlaw10_ParentForest_go_mono _ _ _ _) (LeO.refl _))) (LeO.refl _)))
theorem merkhetlaw10_ParentForest_if {c : Prop} [Decidable c] {r : Bool} {o : Option Bool} (h : (if c then o else none) = some r) : c ∧ o = some r := by
  by_cases hc : c
  · exact ⟨hc, by simpa [hc] using h⟩
  · exact absurd h (by simp [hc])
set_option maxHeartbeats 60000000 in
set_option maxRecDepth 100000 in
theorem merkhetlaw10_ParentForest.calls (k : Nat) (A0 : Option Addr) (c0 : Nat) (l0 : List S37) (r : Bool) (w : World) (hr0 : Kd.C k37 w A0 l0.length l0) (hc0 : l0.length ≤ c0) (h : merkhetlaw10_ParentForest.f k l0 = some r) :
    Calls Try.prog 8 #[.slice A0 l0.length c0] w fun e w' => e = .returned (.bool r) ∧ Below w.heap.size w w' := by
  have hu_ := Try.underlying37
  have HR := Aside0.mk hr0
  have HC := Aside0.mk hc0
  have hmax := Kd.C_max hr0
  clear hr0 hc0
  unfold merkhetlaw10_ParentForest.f at h
  by_cases c : (l0.length : Int) > 60
  · rw [if_pos c] at h
    obtain ⟨y, hy, h'⟩ := Option.bind_eq_some_iff.mp h
    obtain ⟨rfl, h2⟩ := merkhetlaw10_ParentForest_if h'
    obtain rfl := Option.some.inj h2
    have HY := Aside0.mk hy
    have cb := decide_eq_true c
    clear h h' h2 hy c
    go_enter Try.func8, Try.ntmps8
    go_wp2_with (fail)
    refine (merkhetlaw10_fixed.calls k true _ HY.out).mono ?_
    rintro e w2 ⟨rfl, hb⟩
    have HB2 := Aside0.mk hb
    clear hb
    go_wp2_with (fail)
    go_ret
    exact ⟨rfl, HB2.out⟩
  rw [if_neg c] at h
  have cb := decide_eq_false c
  obtain ⟨p, hp, h1⟩ := Option.bind_eq_some_iff.mp h
  obtain ⟨hpl, h2⟩ := merkhetlaw10_ParentForest_if h1
  obtain ⟨b, hb, h3⟩ := Option.bind_eq_some_iff.mp h2
  obtain ⟨rfl, h4⟩ := merkhetlaw10_ParentForest_if h3
  have HP := Aside0.mk hp
  have HPL := Aside0.mk hpl
  have HRT := Aside0.mk hb
  have HG0 := Aside0.mk h4
  have hlen : ((p.length : Int) != (l0.length : Int)) = false := by rw [hpl]; simp
  clear h h1 h2 h3 h4 hp hpl hb c
  go_enter Try.func8, Try.ntmps8
  go_wp2_with (fail)
  refine (parent_Of.calls k A0 c0 l0 p _ HR.out HC.out HP.out).mono ?_
  rintro e w3 ⟨v3, rfl, hO, hb3⟩
  obtain ⟨Ap, cp, rfl⟩ := Kd.R_slice hO
  have hrd := Kd.R_reads' hO
  have HPC := Aside0.mk hrd.2.2
  have HCP := Aside0.mk hrd.2.1
  have HB3 := Aside0.mk hb3
  clear hrd hO hb3
  go_wp2_with (fail)
  refine (parent_Right.calls k Ap cp p true _ HPC.out HCP.out HRT.out).mono ?_
  rintro e w4 ⟨rfl, hb⟩
  have HB4 := Aside0.mk hb
  clear hb
  go_wp2_with (fail)
  go_loopg [27] p.length (fun d v27 wr => ∃ (i : Nat), i + d = p.length ∧ v27 = .int .i64 i ∧ Aside0 (merkhetlaw10_ParentForest_go k l0 (p.drop i) i = some r) ∧ Aside0 (Below w3.heap.size w3 wr))
  case atStart => exact ⟨0, by omega, rfl, HG0, HB4⟩
  case round =>
    obtain ⟨i, hi, rfl, HG, HB⟩ := hrel
    by_cases hlt : i < p.length
    · have hltz : (i : Int) < (p.length : Int) := by omega
      obtain ⟨ap, e, hk⟩ := Kd.at_int HPC.out (i : Int) (by omega) hltz
      cases e
      replace hk := (HB.out.cell (World.block_lt_of_cell? w3 _ hk)).trans hk
      simp only [Int.toNat_natCast] at hk
      have hy : rd p (i : Int) = p[i] := by unfold rd; rw [Int.toNat_natCast, List.getD_eq_getElem?_getD, List.getElem?_eq_getElem hlt]; rfl
      rw [hy] at hk
      have hg := HG.out
      rw [List.drop_eq_getElem_cons hlt] at hg
      clear hy HG
      generalize p[i] = kk at hk hg
      unfold merkhetlaw10_ParentForest_go at hg
      obtain ⟨⟨⟨k0, k1⟩, k2⟩, hg⟩ := merkhetlaw10_ParentForest_if hg
      have HBW := Aside0.mk (below_step HB3.out HB.out)
      have hil : (i : Int) < (l0.length : Int) := by omega
      obtain ⟨ad, e, -, -, hx2, -, -, -, -, -⟩ := at_T37 HR.out (i : Int) (by omega) hil
      cases e
      have HXW := Aside0.mk hx2
      replace hx2 := (HBW.out.cell (World.block_lt_of_cell? w _ hx2)).trans hx2
      simp only [Int.toNat_natCast] at hx2
      have b1 : decide (kk < -1) = false := decide_eq_false (by omega)
      have b2 : decide ((l0.length : Int) ≤ kk) = false := decide_eq_false (by omega)
      by_cases b3 : 0 ≤ kk
      · rw [if_pos b3] at hg
        obtain ⟨heq, hg⟩ := merkhetlaw10_ParentForest_if hg
        have HGN := Aside0.mk hg
        obtain ⟨ad', e, -, hx1, -, -, -, -, -, -⟩ := at_T37 HR.out kk b3 k1
        cases e
        replace hx1 := (HBW.out.cell (World.block_lt_of_cell? w _ hx1)).trans hx1
        rw [heq] at hx1
        clear hg heq
        generalize (rd_T37 l0 (i : Int)).f2 = u at hx1 hx2
        have b3b := decide_eq_true b3
        have hne : (u != u) = false := by simp
        go_wp2_with (fail)
        go_quiet (fail)
        go_wp2_with (fail)
        go_roundg (p.length - (i + 1))
        case measure => omega
        case rel => exact ⟨i + 1, by omega, by go_num, HGN, ⟨by first | exact pw_below_drewN HB.out _ | exact HB.out⟩⟩
      · rw [if_neg b3] at hg
        have b3b : decide (0 ≤ kk) = false := decide_eq_false b3
        obtain ⟨u, hu⟩ : ∃ u, u = (rd_T37 l0 (i : Int)).f2 := ⟨_, rfl⟩
        rw [← hu] at hg hx2
        by_cases b4 : u = 0
        · rw [if_pos b4] at hg
          have HGN := Aside0.mk hg
          have b4b : (u == 0) = true := beq_iff_eq.mpr b4
          clear hg b4 hu
          go_wp2_with (fail)
          go_quiet (fail)
          go_wp2_with (fail)
          go_roundg (p.length - (i + 1))
          case measure => omega
          case rel => exact ⟨i + 1, by omega, by go_num, HGN, ⟨by first | exact pw_below_drewN HB.out _ | exact HB.out⟩⟩
        · rw [if_neg b4] at hg
          have b4b : (u == 0) = false := beq_eq_false_iff_ne.mpr b4
          have HGG := Aside0.mk hg
          clear hg b4
          have HU := Aside0.mk hu
          clear hu
          go_wp2_with (fail)
          go_quiet (fail)
          go_wp2_with (fail)
          clear hx2 hk
          go_loopg [6, 69] l0.length (fun d v6 v69 wq => ∃ (j : Nat), j + d = l0.length ∧ v69 = .int .i64 j ∧ v6 = .bool ((l0.take j).any fun s => s.f1 == u) ∧ Aside0 (Below w3.heap.size w3 wq))
          case atStart => exact ⟨0, by omega, rfl, by simp, ⟨by first | exact pw_below_drewN HB.out _ | exact HB.out⟩⟩
          case round =>
            obtain ⟨j, hj, rfl, rfl, HBq⟩ := hrel
            have HBV := Aside0.mk (below_step HB3.out HBq.out)
            by_cases hjt : j < l0.length
            · have hjz : (j : Int) < (l0.length : Int) := by omega
              obtain ⟨ad2, e, hy0, hy1, hy2, hy3, hy4, hy5, hy6, hy7⟩ := at_T37 HR.out (j : Int) (by omega) hjz
              cases e
              replace hy0 := (HBV.out.cell (World.block_lt_of_cell? w _ hy0)).trans hy0; simp only [Int.toNat_natCast] at hy0
              replace hy1 := (HBV.out.cell (World.block_lt_of_cell? w _ hy1)).trans hy1; simp only [Int.toNat_natCast] at hy1
              replace hy2 := (HBV.out.cell (World.block_lt_of_cell? w _ hy2)).trans hy2; simp only [Int.toNat_natCast] at hy2
              replace hy3 := (HBV.out.cell (World.block_lt_of_cell? w _ hy3)).trans hy3; simp only [Int.toNat_natCast] at hy3
              replace hy4 := (HBV.out.cell (World.block_lt_of_cell? w _ hy4)).trans hy4; simp only [Int.toNat_natCast] at hy4
              replace hy5 := (HBV.out.cell (World.block_lt_of_cell? w _ hy5)).trans hy5; simp only [Int.toNat_natCast] at hy5
              replace hy6 := (HBV.out.cell (World.block_lt_of_cell? w _ hy6)).trans hy6; simp only [Int.toNat_natCast] at hy6
              replace hy7 := (HBV.out.cell (World.block_lt_of_cell? w _ hy7)).trans hy7; simp only [Int.toNat_natCast] at hy7
              have hz : rd_T37 l0 (j : Int) = l0[j] := by show l0.getD _ _ = _; simp [List.getD_eq_getElem?_getD, List.getElem?_eq_getElem hjt]
              rw [hz] at hy0 hy1 hy2 hy3 hy4 hy5 hy6 hy7
              have HT := Aside0.mk (show ((l0.take (j + 1)).any fun s => s.f1 == u) = (((l0.take j).any fun s => s.f1 == u) || (l0[j].f1 == u)) by rw [List.take_succ_eq_append_getElem hjt, List.any_append, List.any_cons, List.any_nil, Bool.or_false])
              clear hz
              have hx2 : ∀ o : Obj, (wr.alloc o).cell? ⟨(ad.add (i * 8)).block, (ad.add (i * 8)).off + 2, none⟩ = some (.int .u64 u) := fun o => by
                have h_ := HXW.out
                simp only [Int.toNat_natCast] at h_
                rw [← HU.out] at h_
                exact ((below_alloc HBV.out o).cell (World.block_lt_of_cell? w _ h_)).trans h_
              generalize l0[j] = s at hy0 hy1 hy2 hy3 hy4 hy5 hy6 hy7 HT
              generalize ((l0.take j).any fun s => s.f1 == u) = there at HT ⊢
              cases there with
              | true =>
                go_wp2
                go_quiet (fail)
                go_wp2_with (fail)
                go_roundg (l0.length - (j + 1))
                case measure => omega
                case rel => exact ⟨j + 1, by omega, by go_num, by rw [HT.out]; simp, ⟨by first | exact pw_below_drewN (below_alloc HBq.out _) _ | exact below_alloc HBq.out _⟩⟩
              | false =>
                go_wp2
                go_quiet (fail)
                go_wp2_with (fail)
                go_roundg (l0.length - (j + 1))
                case measure => omega
                case rel => exact ⟨j + 1, by omega, by go_num, by rw [HT.out]; simp, ⟨by first | exact pw_below_drewN (below_alloc HBq.out _) _ | exact below_alloc HBq.out _⟩⟩
            · obtain rfl : j = l0.length := by omega
              have HTK := Aside0.mk (show l0.take l0.length = l0 from List.take_of_length_le (Nat.le_refl _))
              rw [HTK.out]
              have hgg := HGG.out
              generalize (l0.any fun s => s.f1 == u) = there at hgg ⊢
              cases there with
              | true =>
                rw [if_pos rfl] at hgg
                obtain ⟨t, ht, hgg2⟩ := Option.bind_eq_some_iff.mp hgg
                obtain ⟨rfl, hgg3⟩ := merkhetlaw10_ParentForest_if hgg2
                have HLP := Aside0.mk ht
                have HGN := Aside0.mk hgg3
                clear hgg hgg2 hgg3 ht HGG
                go_wp2_with (fail)
                refine (merkhetlaw10_loop.calls k _ c0 l0 (i : Int) true _ (Kd.C_below HR.out HBV.out) HC.out HLP.out).mono ?_
                rintro e w6 ⟨rfl, hb6⟩
                have HB6 := Aside0.mk (below_step HBq.out hb6.below)
                clear hb6
                go_wp2_with (fail)
                go_roundg (p.length - (i + 1))
                case measure => omega
                case rel => exact ⟨i + 1, by omega, by go_num, HGN, HB6⟩
              | false =>
                rw [if_neg Bool.false_ne_true] at hgg
                have HGN := Aside0.mk hgg
                clear hgg HGG
                go_wp2_with (fail)
                go_roundg (p.length - (i + 1))
                case measure => omega
                case rel => exact ⟨i + 1, by omega, by go_num, HGN, HBq⟩
    · obtain rfl : i = p.length := by omega
      have hg := HG.out
      rw [List.drop_of_length_le (Nat.le_refl _)] at hg
      unfold merkhetlaw10_ParentForest_go at hg
      obtain ⟨y, hy, hg2⟩ := Option.bind_eq_some_iff.mp hg
      obtain ⟨rfl, hg3⟩ := merkhetlaw10_ParentForest_if hg2
      obtain rfl := Option.some.inj hg3
      have HY := Aside0.mk hy
      have HBW := Aside0.mk (below_step HB3.out HB.out)
      clear hg hg2 hg3 hy HG
      go_wp2_with (fail)
      refine (merkhetlaw10_fixed.calls k true _ HY.out).mono ?_
      rintro e w6 ⟨rfl, hb6⟩
      have HB6 := Aside0.mk (below_step HBW.out hb6)
      clear hb6
      go_wp2_with (fail)
      go_ret
      exact ⟨rfl, HB6.out⟩

/-- THE ONE PURE STATEMENT of merkhetlaw10_ParentForest. -/
def merkhetlaw10_ParentForest.Pure : Prop := ∀ (l0 : List (S37)), l0.length ≤ maxLen → (∀ x0_ ∈ l0, ((Lit.int .u64 x0_.f0).wf = true ∧ (Lit.int .u64 x0_.f1).wf = true ∧ (Lit.int .u64 x0_.f2).wf = true ∧ (Lit.int .u8 x0_.f3).wf = true ∧ x0_.f4.size ≤ maxLen ∧ x0_.f5.size ≤ maxLen ∧ (Lit.int .i64 x0_.f6).wf = true ∧ (Lit.int .i64 x0_.f7).wf = true)) → ∃ k, merkhetlaw10_ParentForest.f k l0 = some true


end Go.Proofs.Ytcgjplolehhpjaa.U
