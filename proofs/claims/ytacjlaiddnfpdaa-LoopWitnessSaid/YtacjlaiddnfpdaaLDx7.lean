-- WRITTEN FOR THIS CLAIM by wip/tools/mp.py, a program of this project that drives the kit's print; the functions that the print does not take are this project's own texts.
import Derived.Test.YtacjlaiddnfpdaaLDx0
import Derived.Test.YtacjlaiddnfpdaaLDx1
import Derived.Test.YtacjlaiddnfpdaaLDx2
import Derived.Test.YtacjlaiddnfpdaaLDx3
import Derived.Test.YtacjlaiddnfpdaaLDx5
import Derived.Test.YtacjlaiddnfpdaaLDx6
namespace Go.Proofs.Ytacjlaiddnfpdaa.LD
open Go.RowKit Go.Proofs.YtacjlaiddnfpdaaW.PrintWords Go.Proofs.YtacjlaiddnfpdaaW.PrintLast Go.Proofs.YtacjlaiddnfpdaaW.PrintMore
attribute [local go_sem] max2_int min2_int max_two min_two max_three min_three max_four min_four   -- for this text's walks alone
set_option linter.unusedVariables false
set_option linter.unusedSimpArgs false

/-! ### merkhetlaw16_LoopWitness: function 11 -/
def merkhetlaw16_LoopWitness_r (c : List S48) (i : Nat) : S48 := rd_T48 c (i : Int)
def merkhetlaw16_LoopWitness_eq (x y : S48) : Bool := (x.f0 == y.f0 && (x.f1 == y.f1 && (x.f2 == y.f2 && ((x.f3.f0 == y.f3.f0 && (x.f3.f1 == y.f3.f1)) && (x.f4 == y.f4)))))
def merkhetlaw16_LoopWitness_nx (c : List S48) (i : Nat) : Nat := if i + 1 < c.length then i + 1 else 0
def merkhetlaw16_LoopWitness_s (c : List S48) : Nat → Int
  | 0 => 0
  | i + 1 => wrap64 (merkhetlaw16_LoopWitness_s c i + (merkhetlaw16_LoopWitness_r c i).f2)
def merkhetlaw16_LoopWitness_c (n : Int) (l c : List S48) : Prop :=
  (0 < c.length ∧ (c.length : Int) ≤ n ∧ n ≤ 1000) ∧ merkhetlaw16_LoopWitness_s c c.length < 0 ∧ ∀ i, i < c.length → (l.any fun e => merkhetlaw16_LoopWitness_eq e (merkhetlaw16_LoopWitness_r c i)) = true ∧ (merkhetlaw16_LoopWitness_r c i).f1 = (merkhetlaw16_LoopWitness_r c (merkhetlaw16_LoopWitness_nx c i)).f0 ∧ ¬ (merkhetlaw16_LoopWitness_r c i).f0 < (merkhetlaw16_LoopWitness_r c 0).f0 ∧ (0 ≤ (merkhetlaw16_LoopWitness_r c i).f0 ∧ (merkhetlaw16_LoopWitness_r c i).f0 < n) ∧ ∀ j, j < i → (merkhetlaw16_LoopWitness_r c j).f0 ≠ (merkhetlaw16_LoopWitness_r c i).f0
def merkhetlaw16_LoopWitness_fix (k : Nat) : Option Bool := (merkhetlaw16_fixed.f k).bind fun y => if y = true then some true else none
noncomputable instance (n : Int) (l c : List S48) : Decidable (merkhetlaw16_LoopWitness_c n l c) := Classical.propDecidable _
noncomputable def merkhetlaw16_LoopWitness.f (k : Nat) (n : Int) (l1 : List S48) : Option Bool :=
  if (l1.length : Int) > 100 then merkhetlaw16_LoopWitness_fix k
  else (loop_Of.f k n l1).bind fun c => (merkhetref15_Solve.f k n l1).bind fun o =>
    if o.2 = true then (if c.length = 0 then merkhetlaw16_LoopWitness_fix k else none)
    else (merkhetref15_May.f k n l1).bind fun m => if m = true then (if merkhetlaw16_LoopWitness_c n l1 c then merkhetlaw16_LoopWitness_fix k else none) else (if c.length = 0 then merkhetlaw16_LoopWitness_fix k else none)
theorem merkhetlaw16_LoopWitness_fix_mono (k : Nat) : LeO (merkhetlaw16_LoopWitness_fix k) (merkhetlaw16_LoopWitness_fix (k + 1)) := LeO.bind (merkhetlaw16_fixed.mono _) (fun _ => LeO.refl _)
theorem merkhetlaw16_LoopWitness.mono : ∀ a0 a1 k, LeO (merkhetlaw16_LoopWitness.f k a0 a1) (merkhetlaw16_LoopWitness.f (k + 1) a0 a1) := by
  intro a0 a1 k
  exact LeO.ite (merkhetlaw16_LoopWitness_fix_mono k) (LeO.bind (loop_Of.mono _ _ _) (fun _ => LeO.bind (merkhetref15_Solve.mono _ _ _) (fun _ => LeO.ite (LeO.ite (merkhetlaw16_LoopWitness_fix_mono k) (LeO.refl _)) (LeO.bind (merkhetref15_May.mono _ _ _) (fun _ => LeO.ite (LeO.ite (merkhetlaw16_LoopWitness_fix_mono k) (LeO.refl _)) (LeO.ite (merkhetlaw16_LoopWitness_fix_mono k) (LeO.refl _)))))))
theorem merkhetlaw16_LoopWitness_if {c : Prop} [Decidable c] {o : Option Bool} {r : Bool} (h : (if c then o else none) = some r) : c ∧ o = some r := by
  by_cases hc : c
  · exact ⟨hc, by simpa [hc] using h⟩
  · exact absurd h (by simp [hc])
theorem merkhetlaw16_LoopWitness_fx {k : Nat} {r : Bool} (h : merkhetlaw16_LoopWitness_fix k = some r) : r = true ∧ merkhetlaw16_fixed.f k = some true := by
  obtain ⟨y, hy, h2⟩ := Option.bind_eq_some_iff.mp h
  obtain ⟨rfl, h3⟩ := merkhetlaw16_LoopWitness_if h2
  exact ⟨(Option.some.inj h3).symm, hy⟩
theorem merkhetlaw16_LoopWitness_at {w W : World} {A : Option Addr} {l : List S48} (h : Kd.C k48 w A l.length l) (hb : Below w.heap.size w W) (i : Nat) (hi : i < l.length) (x : S48) (hx : merkhetlaw16_LoopWitness_r l i = x) : ∃ ad, A = some ad ∧ W.cell? (ad.add (i * 6)) = some (.int .i64 x.f0) ∧ W.cell? ⟨(ad.add (i * 6)).block, (ad.add (i * 6)).off + 1, none⟩ = some (.int .i64 x.f1) ∧ W.cell? ⟨(ad.add (i * 6)).block, (ad.add (i * 6)).off + 2, none⟩ = some (.int .i64 x.f2) ∧ W.cell? ⟨(ad.add (i * 6)).block, (ad.add (i * 6)).off + 3, none⟩ = some (.int .i64 x.f3.f0) ∧ W.cell? ⟨(ad.add (i * 6)).block, (ad.add (i * 6)).off + 4, none⟩ = some (.int .i64 x.f3.f1) ∧ W.cell? ⟨(ad.add (i * 6)).block, (ad.add (i * 6)).off + 5, none⟩ = some (.bool x.f4) := by
  subst hx
  obtain ⟨ad, e, h0, h1, h2, h3, h4, h5⟩ := at_T48 h (i : Int) (by omega) (by omega)
  simp only [Int.toNat_natCast] at h0 h1 h2 h3 h4 h5
  exact ⟨ad, e, (hb.cell (World.block_lt_of_cell? w _ h0)).trans h0, (hb.cell (World.block_lt_of_cell? w _ h1)).trans h1, (hb.cell (World.block_lt_of_cell? w _ h2)).trans h2, (hb.cell (World.block_lt_of_cell? w _ h3)).trans h3, (hb.cell (World.block_lt_of_cell? w _ h4)).trans h4, (hb.cell (World.block_lt_of_cell? w _ h5)).trans h5⟩
theorem merkhetlaw16_LoopWitness_any {l : List S48} {p : S48 → Bool} {i : Nat} (hi : i < l.length) : (l.drop i).any p = (p (merkhetlaw16_LoopWitness_r l i) || (l.drop (i + 1)).any p) := by
  rw [List.drop_eq_getElem_cons hi, List.any_cons]
  congr 2
  show _ = l.getD _ _
  simp [List.getD_eq_getElem?_getD, List.getElem?_eq_getElem hi]
attribute [local go_sem high] eqA48
set_option maxHeartbeats 8000000 in
set_option maxRecDepth 100000 in
theorem merkhetlaw16_LoopWitness.calls (k : Nat) (a0 : Int) (A1 : Option Addr) (c1 : Nat) (l1 : List S48) (r : Bool) (w : World) (hr1 : Kd.C k48 w A1 l1.length l1) (hc1 : l1.length ≤ c1) (h : merkhetlaw16_LoopWitness.f k a0 l1 = some r) :
    Calls Try.prog 11 #[.int .i64 a0, .slice A1 l1.length c1] w fun e w' => e = .returned (.bool r) ∧ Below w.heap.size w w' := by
  have hu_ := Try.underlying48
  have HR := Aside0.mk hr1
  have HC := Aside0.mk hc1
  clear hr1 hc1
  unfold merkhetlaw16_LoopWitness.f at h
  by_cases c : (l1.length : Int) > 100
  · rw [if_pos c] at h
    obtain ⟨rfl, hy⟩ := merkhetlaw16_LoopWitness_fx h
    have HY := Aside0.mk hy
    clear h hy
    go_enter Try.func11, Try.ntmps11
    go_wp2_with (fail)
    refine (merkhetlaw16_fixed.calls k true _ HY.out).mono ?_
    rintro e w2 ⟨rfl, hb⟩
    have HB2 := Aside0.mk hb
    clear hb
    go_wp2_with (fail)
    go_ret
    exact ⟨rfl, HB2.out⟩
  rw [if_neg c] at h
  have hl100 : l1.length ≤ 100 := by omega
  obtain ⟨cc, hof, h1⟩ := Option.bind_eq_some_iff.mp h
  obtain ⟨⟨so, ok⟩, hsol, h2⟩ := Option.bind_eq_some_iff.mp h1
  have HOF := Aside0.mk hof
  have HSOL := Aside0.mk hsol
  have H2 := Aside0.mk h2
  clear h h1 h2 hof hsol
  go_enter Try.func11, Try.ntmps11
  go_wp2_with (fail)
  refine (loop_Of.calls k a0 A1 c1 l1 cc _ HR.out HC.out HOF.out).mono ?_
  rintro e w2 ⟨v2, rfl, hO, hb⟩
  obtain ⟨Ac, ccap, rfl⟩ := Kd.R_slice hO
  have hrd := Kd.R_reads' hO
  have HK2 := Aside0.mk hrd.2.2
  have HKC := Aside0.mk hrd.2.1
  have HB2 := Aside0.mk hb
  clear hO hrd hb
  go_wp2_with (fail)
  refine (merkhetref15_Solve.calls k a0 A1 c1 l1 so ok _ (Kd.C_below HR.out HB2.out) HC.out HSOL.out).mono ?_
  rintro e w3 ⟨v3, rfl, hv, hb⟩
  have HK3 := Aside0.mk (Kd.C_below HK2.out hb)
  have HB3 := Aside0.mk (below_step HB2.out hb)
  clear hv hb HB2 HK2
  cases ok with
  | true =>
    obtain ⟨hz, h4⟩ := merkhetlaw16_LoopWitness_if (show (if cc.length = 0 then merkhetlaw16_LoopWitness_fix k else none) = some r by have := H2.out; simpa using this)
    obtain ⟨rfl, hy⟩ := merkhetlaw16_LoopWitness_fx h4
    have HY := Aside0.mk hy
    have hzb : ((cc.length : Int) == 0) = true := by rw [hz]; rfl
    clear h4 hy H2
    go_wp2_with (fail)
    refine (merkhetlaw16_fixed.calls k true _ HY.out).mono ?_
    rintro e w4 ⟨rfl, hb⟩
    have HB4 := Aside0.mk (below_step HB3.out hb)
    clear hb
    go_wp2_with (fail)
    go_ret
    exact ⟨rfl, HB4.out⟩
  | false =>
  have h2 := H2.out
  simp only [Bool.false_eq_true, if_false] at h2
  obtain ⟨m, hm, h3⟩ := Option.bind_eq_some_iff.mp h2
  have HM := Aside0.mk hm
  clear H2 h2 hm
  cases m with
  | false =>
    rw [if_neg Bool.false_ne_true] at h3
    obtain ⟨hz, h4⟩ := merkhetlaw16_LoopWitness_if h3
    obtain ⟨rfl, hy⟩ := merkhetlaw16_LoopWitness_fx h4
    have HY := Aside0.mk hy
    have hzb : ((cc.length : Int) == 0) = true := by rw [hz]; rfl
    clear h3 h4 hy
    go_wp2_with (fail)
    refine (merkhetref15_May.calls k a0 A1 c1 l1 false _ (Kd.C_below HR.out HB3.out) HC.out HM.out).mono ?_
    rintro e w4 ⟨rfl, hb⟩
    have HB4 := Aside0.mk (below_step HB3.out hb)
    clear hb
    go_wp2_with (fail)
    refine (merkhetlaw16_fixed.calls k true _ HY.out).mono ?_
    rintro e w5 ⟨rfl, hb⟩
    have HB5 := Aside0.mk (below_step HB4.out hb)
    clear hb
    go_wp2_with (fail)
    go_ret
    exact ⟨rfl, HB5.out⟩
  | true =>
  rw [if_pos rfl] at h3
  obtain ⟨hcn, h4⟩ := merkhetlaw16_LoopWitness_if h3
  obtain ⟨rfl, hy⟩ := merkhetlaw16_LoopWitness_fx h4
  obtain ⟨⟨q1, q2, q3⟩, q4, q5⟩ := hcn
  have HY := Aside0.mk hy
  have HQ := Aside0.mk q5
  have HNEG := Aside0.mk q4
  obtain ⟨n, rfl⟩ : ∃ n : Nat, a0 = (n : Int) := ⟨a0.toNat, by omega⟩
  have hzb : ((cc.length : Int) == 0) = false := by rw [beq_eq_false_iff_ne]; omega
  have hgt : ¬ n < cc.length := by omega
  have hmk := print_make_of (P := Try.prog) 52 4 (.bool false) 1 Try.underlying52 info4 rfl (by decide) n (by omega)
  clear h3 h4 hy q4 q5
  go_wp2_with (fail)
  refine (merkhetref15_May.calls k (n : Int) A1 c1 l1 true _ (Kd.C_below HR.out HB3.out) HC.out HM.out).mono ?_
  rintro e w4 ⟨rfl, hb⟩
  have HK4 := Aside0.mk (Kd.C_below HK3.out hb)
  have HB4 := Aside0.mk (below_step HB3.out hb)
  have HR4 := Aside0.mk (Kd.C_below HR.out HB4.out)
  clear hb HB3 HK3
  have HMET := Aside0.mk (Go.Proofs.Ytacjlaiddnfpdaa.H.rowB_made w4 4 n)
  have HBM := Aside0.mk (below_alloc (Below.refl w4.heap.size w4) (.cells (madeCells #[.bool false] n) 4))
  go_wp2_with (fail)
  clear hmk
  generalize hg : w4.heap.size = g at HMET ⊢
  have HG := Aside0.mk hg
  clear hg
  go_loopg [9, 54] cc.length (fun d v9 v54 wr => ∃ (i : Nat) (met : List Bool), i + d = cc.length ∧ v54 = .int .i64 i ∧ v9 = .int .i64 (merkhetlaw16_LoopWitness_s cc i) ∧ Aside0 (met.length = n) ∧ Aside0 (∀ a : Nat, (∀ j, j < i → (merkhetlaw16_LoopWitness_r cc j).f0 ≠ (a : Int)) → met.getD a false = false) ∧ Aside0 (Go.Proofs.Ytacjlaiddnfpdaa.H.rowB wr g 4 met) ∧ Aside0 (Below w4.heap.size w4 wr))
  case atStart => exact ⟨0, List.replicate n false, by omega, rfl, rfl, ⟨by simp⟩, ⟨fun a _ => by rw [List.getD_eq_getElem?_getD, List.getElem?_replicate]; split <;> rfl⟩, HMET, HBM⟩
  case round =>
    clear HMET HBM
    obtain ⟨i, met, hi, rfl, rfl, HML, HMF, HMT, HB⟩ := hrel
    by_cases hlt : i < cc.length
    · have hltz : (i : Int) < (cc.length : Int) := by omega
      obtain ⟨x, hx⟩ : ∃ x, merkhetlaw16_LoopWitness_r cc i = x := ⟨_, rfl⟩
      obtain ⟨ad, e, h0, h1, h2, h3, h4, h5⟩ := merkhetlaw16_LoopWitness_at HK4.out HB.out i hlt x hx
      cases e
      have hq := HQ.out i hlt
      rw [hx] at hq
      obtain ⟨p1, p2, p3, ⟨p4, p5⟩, p6⟩ := hq
      have HP1 := Aside0.mk p1
      have HP2 := Aside0.mk p2
      have HP6 := Aside0.mk p6
      have HX := Aside0.mk hx
      have HBA := Aside0.mk (below_alloc HB.out (.cells #[.int .i64 x.f0, .int .i64 x.f1, .int .i64 x.f2, .int .i64 x.f3.f0, .int .i64 x.f3.f1, .bool x.f4] 48 (0, 0)))
      have HKE := Aside0.mk (blk_new wr (.cells #[.int .i64 x.f0, .int .i64 x.f1, .int .i64 x.f2, .int .i64 x.f3.f0, .int .i64 x.f3.f1, .bool x.f4] 48 (0, 0)))
      have HMA := Aside0.mk (Go.Proofs.Ytacjlaiddnfpdaa.H.rowB_alloc HMT.out (.cells #[.int .i64 x.f0, .int .i64 x.f1, .int .i64 x.f2, .int .i64 x.f3.f0, .int .i64 x.f3.f1, .bool x.f4] 48 (0, 0)))
      have HLTG := Aside0.mk (Go.Proofs.Ytacjlaiddnfpdaa.H.rowB_lt HMT.out)
      clear p1 p2 p6 hx HMT
      go_wp2_with (fail)
      clear h0 h1 h2 h3 h4 h5
      generalize hge : wr.heap.size = gE at HKE ⊢
      have HGE := Aside0.mk (show g < gE by rw [← hge]; exact HLTG.out)
      clear hge HB
      go_loopg [12, 61] l1.length (fun d v12 v61 wq => ∃ (q : Nat) (b : Bool), q + d = l1.length ∧ v12 = .bool b ∧ v61 = .int .i64 q ∧ Aside0 ((b || (l1.drop q).any fun e => merkhetlaw16_LoopWitness_eq e x) = (l1.any fun e => merkhetlaw16_LoopWitness_eq e x)) ∧ Aside0 (wq.heap[gE]? = some (.cells #[.int .i64 x.f0, .int .i64 x.f1, .int .i64 x.f2, .int .i64 x.f3.f0, .int .i64 x.f3.f1, .bool x.f4] 48 (0, 0))) ∧ Aside0 (Go.Proofs.Ytacjlaiddnfpdaa.H.rowB wq g 4 met) ∧ Aside0 (Below w4.heap.size w4 wq))
      case atStart => exact ⟨0, false, by omega, rfl, rfl, ⟨by rw [List.drop_zero, Bool.false_or]⟩, HKE, HMA, HBA⟩
      case round =>
        clear HKE HMA HBA
        obtain ⟨q, b, hq, rfl, rfl, HT, HK, HM, HB⟩ := hrel
        by_cases hlq : q < l1.length
        · have hlqz : (q : Int) < (l1.length : Int) := by omega
          obtain ⟨y, hy⟩ : ∃ y, merkhetlaw16_LoopWitness_r l1 q = y := ⟨_, rfl⟩
          obtain ⟨ad1, e, h0, h1, h2, h3, h4, h5⟩ := merkhetlaw16_LoopWitness_at HR4.out HB.out q hlq y hy
          cases e
          have ht := HT.out
          rw [merkhetlaw16_LoopWitness_any hlq, hy] at ht
          have HBX := Aside0.mk (below_alloc HB.out (.cells #[.int .i64 y.f0, .int .i64 y.f1, .int .i64 y.f2, .int .i64 y.f3.f0, .int .i64 y.f3.f1, .bool y.f4] 48 (0, 0)))
          have HKX := Aside0.mk (blk_alloc HK.out (.cells #[.int .i64 y.f0, .int .i64 y.f1, .int .i64 y.f2, .int .i64 y.f3.f0, .int .i64 y.f3.f1, .bool y.f4] 48 (0, 0)))
          have HMX := Aside0.mk (Go.Proofs.Ytacjlaiddnfpdaa.H.rowB_alloc HM.out (.cells #[.int .i64 y.f0, .int .i64 y.f1, .int .i64 y.f2, .int .i64 y.f3.f0, .int .i64 y.f3.f1, .bool y.f4] 48 (0, 0)))
          have k0 := blk_cell HKX.out 0
          have k1 := blk_cell HKX.out 1
          have k2 := blk_cell HKX.out 2
          have k3 := blk_cell HKX.out 3
          have k4 := blk_cell HKX.out 4
          have k5 := blk_cell HKX.out 5
          cases b with
          | true =>
            have HT2 := Aside0.mk (show (true || (l1.drop (q + 1)).any fun e => merkhetlaw16_LoopWitness_eq e x) = (l1.any fun e => merkhetlaw16_LoopWitness_eq e x) by rw [Bool.true_or]; rw [Bool.true_or] at ht; exact ht)
            clear ht HT hy
            go_wp2_with (fail)
            go_roundg (gk - 1)
            case measure => omega
            case rel => exact ⟨q + 1, true, by omega, rfl, by go_num, HT2, HKX, HMX, HBX⟩
          | false =>
            rw [Bool.false_or] at ht
            have HT2 := Aside0.mk ht
            clear ht HT hy
            cases hc : merkhetlaw16_LoopWitness_eq y x with
            | true =>
              rw [hc] at HT2
              unfold merkhetlaw16_LoopWitness_eq at hc
              go_wp2_with (fail)
              go_roundg (gk - 1)
              case measure => omega
              case rel => exact ⟨q + 1, true, by omega, rfl, by go_num, HT2, HKX, HMX, HBX⟩
            | false =>
              rw [hc] at HT2
              unfold merkhetlaw16_LoopWitness_eq at hc
              go_wp2_with (fail)
              go_roundg (gk - 1)
              case measure => omega
              case rel => exact ⟨q + 1, false, by omega, rfl, by go_num, HT2, HKX, HMX, HBX⟩
        · have hlqz : ¬ (q : Int) < (l1.length : Int) := by omega
          have ht := HT.out
          rw [List.drop_of_length_le (by omega), List.any_nil, Bool.or_false, HP1.out] at ht
          subst ht
          obtain ⟨nx, hnx⟩ : ∃ nx, nx = merkhetlaw16_LoopWitness_nx cc i := ⟨_, rfl⟩
          have hnl : nx < cc.length := by rw [hnx]; unfold merkhetlaw16_LoopWitness_nx; split <;> omega
          have htm : Int.tmod ((i : Int) + 1) (cc.length : Int) = (nx : Int) := by
            rw [hnx]; unfold merkhetlaw16_LoopWitness_nx
            by_cases c1 : i + 1 < cc.length
            · rw [if_pos c1, Int.tmod_eq_of_lt (by omega) (by omega)]; omega
            · rw [if_neg c1, show (i : Int) + 1 = (cc.length : Int) by omega, Int.tmod_self]; rfl
          obtain ⟨z, hz⟩ : ∃ z, merkhetlaw16_LoopWitness_r cc nx = z := ⟨_, rfl⟩
          obtain ⟨y, hy⟩ : ∃ y, merkhetlaw16_LoopWitness_r cc 0 = y := ⟨_, rfl⟩
          obtain ⟨ad3, e, g0, _⟩ := merkhetlaw16_LoopWitness_at HK4.out HB.out nx hnl z hz
          cases e
          obtain ⟨ad4, e, f0, _⟩ := merkhetlaw16_LoopWitness_at HK4.out HB.out 0 q1 y hy
          cases e
          rw [Nat.zero_mul, Addr.add_zero'] at f0
          have k0 := blk_cell HK.out 0
          have k1 := blk_cell HK.out 1
          have k2 := blk_cell HK.out 2
          rw [hy] at p3
          have hp2 := HP2.out
          rw [← hnx, hz] at hp2
          have hneb : (x.f1 != z.f0) = false := bne_eq_false_iff_eq.mpr hp2
          have hml := HML.out
          have hm0 := Go.Proofs.Ytacjlaiddnfpdaa.H.rowB_cell HM.out x.f0 p4 (by rw [hml]; exact p5)
          rw [HMF.out x.f0.toNat (fun j hj => by rw [Int.toNat_of_nonneg p4]; exact HP6.out j hj)] at hm0
          have hmf := Go.Proofs.Ytacjlaiddnfpdaa.H.rowB_frozen HM.out x.f0.toNat
          have hnlz : (nx : Int) < (cc.length : Int) := by omega
          have hc0 : (0 : Int) < (cc.length : Int) := by omega
          have HMS := Aside0.mk (Go.Proofs.Ytacjlaiddnfpdaa.H.rowB_set HM.out x.f0.toNat true)
          have HBS := Aside0.mk (show Below w4.heap.size w4 (wr.setCell ⟨g, x.f0.toNat, none⟩ (.bool true)) from below_set HB.out (by have := HG.out; omega))
          have HKS := Aside0.mk (blk_far HK.out (g := gE) (p := ⟨g, x.f0.toNat, none⟩) (by have := HGE.out; show gE ≠ g; omega) (.bool true))
          clear hnx hz hy hp2 HT
          have hcnil : (cc = []) = False := eq_false (fun e => by rw [e] at q1; exact absurd q1 (Nat.lt_irrefl _))
          have hwx : IntKind.i64.wrap (nx : Int) = (nx : Int) := IntWalk.i64_in _ (by omega)
          have hwr : IntKind.i64.wrap ((i : Int) + 1) = (i : Int) + 1 := IntWalk.i64_in _ (by omega)
          go_wp2_with (fail)
          go_quiet (fail)
          clear hwr htm hwx
          have hne1_ : gE ≠ g := Nat.ne_of_gt HGE.out
          have hne2_ : g ≠ gE := Nat.ne_of_lt HGE.out
          clear g0 f0
          have HXR := Aside0.mk (show merkhetlaw16_LoopWitness_s cc (i + 1) = wrap64 (merkhetlaw16_LoopWitness_s cc i + x.f2) by show wrap64 (_ + (merkhetlaw16_LoopWitness_r cc i).f2) = _; rw [HX.out])
          go_wp2_with (fail)
          go_roundg (cc.length - (i + 1))
          case measure => omega
          case rel => exact ⟨i + 1, met.set x.f0.toNat true, by omega, by go_num, by rw [HXR.out], ⟨by rw [List.length_set]; exact HML.out⟩, ⟨fun a ha => by
            have hne : x.f0.toNat ≠ a := fun e => by
              have h_ := ha i (by omega)
              rw [HX.out] at h_
              omega
            rw [List.getD_eq_getElem?_getD, List.getElem?_set_ne hne, ← List.getD_eq_getElem?_getD]
            exact HMF.out a (fun j hj => ha j (by omega))⟩, ⟨Go.Proofs.Ytacjlaiddnfpdaa.H.rowB_set (Go.Proofs.Ytacjlaiddnfpdaa.H.rowB_drewN HM.out _) _ true⟩, ⟨below_set (pw_below_drewN HB.out _) (by have := HG.out; omega)⟩⟩
    · obtain rfl : i = cc.length := by omega
      go_wp2_with (fail)
      refine (merkhetlaw16_fixed.calls k true _ HY.out).mono ?_
      rintro e w7 ⟨rfl, hb⟩
      have HB7 := Aside0.mk (below_step (below_step HB4.out HB.out) hb)
      have hneg := HNEG.out
      clear hb
      go_wp2_with (fail)
      go_ret
      exact ⟨rfl, HB7.out⟩

/-- THE ONE PURE STATEMENT of merkhetlaw16_LoopWitness. -/
def merkhetlaw16_LoopWitness.Pure : Prop := ∀ (a0 : Int) (l1 : List (S48)), (Lit.int .i64 a0).wf = true → l1.length ≤ maxLen → (∀ x0_ ∈ l1, ((Lit.int .i64 x0_.f0).wf = true ∧ (Lit.int .i64 x0_.f1).wf = true ∧ (Lit.int .i64 x0_.f2).wf = true ∧ ((Lit.int .i64 x0_.f3.f0).wf = true ∧ (Lit.int .i64 x0_.f3.f1).wf = true) ∧ True)) → ∃ k, merkhetlaw16_LoopWitness.f k a0 l1 = some true


/-! ### merkhetref16_place: function 48 -/
def merkhetref16_place.l0 : Nat → List Int → Int → Int → Option (Int)
  | 0, _, _, _ => none
  | k + 1, x0, x1, x5 => if x5 < (x0.length : Int) then (if 0 ≤ x5 then (if (rd x0 x5) = x1 then (some x5) else (merkhetref16_place.l0 k x0 x1 (wrap64 (x5 + 1)))) else (none)) else (some (-1))
def merkhetref16_place.f (k : Nat) (l0 : List Int) (a1 : Int) : Option (Int) := merkhetref16_place.l0 k l0 a1 0
theorem merkhetref16_place.mono_l : ∀ k, (∀ y0 y1 y2, LeO (merkhetref16_place.l0 k y0 y1 y2) (merkhetref16_place.l0 (k + 1) y0 y1 y2))
  | 0 => fun _ _ _ r h => by simp [merkhetref16_place.l0] at h
  | k + 1 => by
    have ih0 := merkhetref16_place.mono_l k
    · intro y0 y1 y2
      unfold merkhetref16_place.l0
      repeat' first
      | (with_reducible exact ih0 _ _ _)
      | (with_reducible exact LeO.refl _)
      | (with_reducible exact LeO.none _)
      | (with_reducible refine LeO.ite ?_ ?_)
      | (with_reducible refine LeO.bind ?_ (fun _ => ?_))
      | exact ih0 _ _ _
      | exact LeO.none _
      | refine LeO.ite ?_ ?_
      | refine LeO.bind ?_ (fun _ => ?_)
theorem merkhetref16_place.mono : ∀ a0 a1 k, LeO (merkhetref16_place.f k a0 a1) (merkhetref16_place.f (k + 1) a0 a1) := by
  intro a0 a1 k
  have ih0 := merkhetref16_place.mono_l k
  unfold merkhetref16_place.f
  repeat' first
      | (with_reducible exact ih0 _ _ _)
      | (with_reducible exact LeO.refl _)
      | (with_reducible exact LeO.none _)
      | (with_reducible refine LeO.ite ?_ ?_)
      | (with_reducible refine LeO.bind ?_ (fun _ => ?_))
      | exact ih0 _ _ _
      | exact LeO.none _
      | refine LeO.ite ?_ ?_
      | refine LeO.bind ?_ (fun _ => ?_)
set_option maxHeartbeats 8000000 in
set_option maxRecDepth 100000 in
theorem merkhetref16_place.calls (k : Nat) (A0 : Option Addr) (c0 : Nat) (l0 : List Int) (a1 : Int) (r : Int) (w : World) (hr0 : Kd.C (Kd.int .i64) w A0 l0.length l0) (hc0 : l0.length ≤ c0) (h : merkhetref16_place.f k l0 a1 = some r) :
    Calls Try.prog 48 #[.slice A0 l0.length c0, .int .i64 a1] w fun e w' => e = .returned (.int .i64 r) ∧ Drawn0 w w' := by
  have HR0 := Aside0.mk hr0
  have HC0 := Aside0.mk hc0
  clear hr0 hc0
  have H : (merkhetref16_place.l0 k l0 a1 0) = some r := h
  clear h
  have H' := Aside0.mk H
  clear H
  go_enter Try.func48, Try.ntmps48
  go_wp2
  go_loopg [5] k (fun kq v5 w' => ∃ (x5_1 : Int), v5 = .int .i64 x5_1 ∧ Aside0 (merkhetref16_place.l0 kq l0 a1 x5_1 = some r) ∧ Aside0 (kq ≤ k) ∧ Drawn0 w w')
  case atStart => exact ⟨(0), (by first | rfl | (simp; done) | (simp [*]; done)), H', ⟨Nat.le_refl _⟩, by repeat (first | exact Drawn0.refl _ | apply Drawn0.step)⟩
  case round =>
    clear H'
    try clear p2
    obtain ⟨x5_1, rfl, HA, HK1, ⟨m1, rfl⟩⟩ := hrel
    cases gk with
    | zero => exact absurd HA.out (by simp [merkhetref16_place.l0])
    | succ k1 =>
      have H := HA.out
      clear HA
      simp only [merkhetref16_place.l0] at H
      by_cases c3 : x5_1 < (l0.length : Int)
      · rw [if_pos c3] at H
        have c3b0 : decide (x5_1 < (l0.length : Int)) = true := decide_eq_true c3
        clear c3
        by_cases c4 : 0 ≤ x5_1
        · rw [if_pos c4] at H
          have c4b0 : decide (0 ≤ x5_1) = true := decide_eq_true c4
          clear c4
          by_cases c5 : (rd l0 x5_1) = a1
          · rw [if_pos c5] at H
            have c5b0 : ((rd l0 x5_1) == a1) = true := beq_iff_eq.mpr c5
            have c5b1 : ((rd l0 x5_1) != a1) = false := bne_eq_false_iff_eq.mpr c5
            clear c5
            obtain rfl := Option.some.inj H
            have p229 : 0 ≤ (x5_1 : Int) := of_decide_eq_true (by first | (with_reducible assumption) | assumption)
            have q229 : x5_1 < (l0.length : Int) := of_decide_eq_true (by first | (with_reducible assumption) | assumption)
            obtain ⟨ad229, e229, hx229_0⟩ := Kd.at_int HR0.out x5_1 p229 q229
            cases e229
            replace p229 := eq_true p229
            replace q229 := eq_true q229
            go_wp2
            go_ret
            exact ⟨by first | rfl | (simp; done) | (simp [*]; done), by repeat (first | exact Drawn0.refl _ | apply Drawn0.step)⟩
          · rw [if_neg c5] at H
            have c5b0 : ((rd l0 x5_1) == a1) = false := beq_eq_false_iff_ne.mpr c5
            have c5b1 : ((rd l0 x5_1) != a1) = true := bne_iff_ne.mpr c5
            have H' := Aside0.mk H
            clear H
            have p229 : 0 ≤ (x5_1 : Int) := of_decide_eq_true (by first | (with_reducible assumption) | assumption)
            have q229 : x5_1 < (l0.length : Int) := of_decide_eq_true (by first | (with_reducible assumption) | assumption)
            obtain ⟨ad229, e229, hx229_0⟩ := Kd.at_int HR0.out x5_1 p229 q229
            cases e229
            replace p229 := eq_true p229
            replace q229 := eq_true q229
            go_wp2
            go_roundg k1
            case measure => have := HK1.out; omega
            case rel => exact ⟨(wrap64 (x5_1 + 1)), (by first | rfl | (simp; done) | (simp [*]; done)), H', ⟨by have := HK1.out; omega⟩, by repeat (first | exact Drawn0.refl _ | apply Drawn0.step)⟩
        · rw [if_neg c4] at H
          exact absurd H (by simp)
      · rw [if_neg c3] at H
        have c3b0 : decide (x5_1 < (l0.length : Int)) = false := decide_eq_false c3
        clear c3
        obtain rfl := Option.some.inj H
        go_wp2
        go_ret
        exact ⟨by first | rfl | (simp; done) | (simp [*]; done), by repeat (first | exact Drawn0.refl _ | apply Drawn0.step)⟩

/-! ### merkhetref16_Of: function 33 -/
def merkhetref16_Of_li (l : List (List Int)) (j v : Int) : Int := rd (rd_L4 l j) v
def merkhetref16_Of_bi (l : List (List Int)) (j v : Int) : Int := rd (rd_L5 l j) v
def merkhetref16_Of_fv (l : List (List Int)) (n : Int) : Nat → Int → Option Int
  | 0, _ => none
  | d + 1, v => if (0 ≤ v ∧ v < 1000000) ∧ v < ((rd_L4 l n).length : Int) ∧ v < ((rd_L4 l (n - 1)).length : Int) then (if merkhetref16_Of_li l n v ≥ merkhetref16_Of_li l (n - 1) v then merkhetref16_Of_fv l n d (v + 1) else some v) else none
def merkhetref16_Of_go (k : Nat) (by_ : List (List Int)) (es : List S48) : Nat → Int → List Int → List S48 → Option (List S48)
  | 0, _, _, _ => none
  | j + 1, v, met, way => if ((j + 1 < by_.length ∧ met.length + j ≤ 100000 ∧ way.length + j ≤ 100000) ∧ 0 ≤ v ∧ v < ((rd_L5 by_ ((j + 1 : Nat) : Int)).length : Int)) ∧ 0 ≤ merkhetref16_Of_bi by_ ((j + 1 : Nat) : Int) v ∧ merkhetref16_Of_bi by_ ((j + 1 : Nat) : Int) v < (es.length : Int) then
      (merkhetref16_place.f k met (rd_T48 es (merkhetref16_Of_bi by_ ((j + 1 : Nat) : Int) v)).f0).bind fun at_ =>
        if 0 ≤ at_ then (if at_ ≤ (way.length : Int) then some ((rd_T48 es (merkhetref16_Of_bi by_ ((j + 1 : Nat) : Int) v) :: way).take (way.length + 1 - at_.toNat)) else none)
        else merkhetref16_Of_go k by_ es j (rd_T48 es (merkhetref16_Of_bi by_ ((j + 1 : Nat) : Int) v)).f0 (met ++ [(rd_T48 es (merkhetref16_Of_bi by_ ((j + 1 : Nat) : Int) v)).f0]) (rd_T48 es (merkhetref16_Of_bi by_ ((j + 1 : Nat) : Int) v) :: way)
      else none
def merkhetref16_Of_end (l by_ : List (List Int)) (n : Int) (es : List S48) (k : Nat) : Option (List S48) :=
  if (0 < l.length ∧ n < (l.length : Int) ∧ 1 ≤ n) ∧ n ≤ 1000 ∧ es.length ≤ 100000 then (merkhetref16_Of_fv l n 1000 0).bind fun v => (merkhetref16_Of_go k by_ es n.toNat v [v] []).bind fun way => if way.length ≤ 100000 then some (way.drop (loop_turned_ls way) ++ way.take (loop_turned_ls way)) else none else none
def merkhetref16_Of.f (k : Nat) (n : Int) (es : List S48) : Option (List S48) :=
  (merkhetref15_Layers.f k n es).bind fun lb => (merkhetref15_Solve.f k n es).bind fun o => if lb.1.length = 0 then some [] else if o.2 = true then some [] else merkhetref16_Of_end lb.1 lb.2 n es k
theorem merkhetref16_Of_go_mono (by_ : List (List Int)) (es : List S48) (k : Nat) : ∀ j v met way, LeO (merkhetref16_Of_go k by_ es j v met way) (merkhetref16_Of_go (k + 1) by_ es j v met way)
  | 0, _, _, _ => LeO.refl _
  | j + 1, v, met, way => LeO.ite (LeO.bind (merkhetref16_place.mono _ _ _) (fun _ => LeO.ite (LeO.refl _) (merkhetref16_Of_go_mono by_ es k j _ _ _))) (LeO.refl _)
theorem merkhetref16_Of_end_mono (l by_ : List (List Int)) (n : Int) (es : List S48) (k : Nat) : LeO (merkhetref16_Of_end l by_ n es k) (merkhetref16_Of_end l by_ n es (k + 1)) :=
  LeO.ite (LeO.bind (LeO.refl _) (fun _ => LeO.bind (merkhetref16_Of_go_mono _ _ _ _ _ _ _) (fun _ => LeO.refl _))) (LeO.refl _)
theorem merkhetref16_Of.mono : ∀ a0 a1 k, LeO (merkhetref16_Of.f k a0 a1) (merkhetref16_Of.f (k + 1) a0 a1) := by
  intro a0 a1 k
  exact LeO.bind (merkhetref15_Layers.mono _ _ _) (fun _ => LeO.bind (merkhetref15_Solve.mono _ _ _) (fun _ => LeO.ite (LeO.refl _) (LeO.ite (LeO.refl _) (merkhetref16_Of_end_mono _ _ _ _ _))))
theorem merkhetref16_Of_at {w : World} {A : Option Addr} {l : List S48} (h : Kd.C k48 w A l.length l) (i : Int) (h0 : 0 ≤ i) (hi : i < (l.length : Int)) (x : S48) (hx : rd_T48 l i = x) : ∃ ad, A = some ad ∧ ∀ W, Below w.heap.size w W → W.cell? (ad.add (i.toNat * 6)) = some (.int .i64 x.f0) ∧ W.cell? ⟨(ad.add (i.toNat * 6)).block, (ad.add (i.toNat * 6)).off + 1, none⟩ = some (.int .i64 x.f1) ∧ W.cell? ⟨(ad.add (i.toNat * 6)).block, (ad.add (i.toNat * 6)).off + 2, none⟩ = some (.int .i64 x.f2) ∧ W.cell? ⟨(ad.add (i.toNat * 6)).block, (ad.add (i.toNat * 6)).off + 3, none⟩ = some (.int .i64 x.f3.f0) ∧ W.cell? ⟨(ad.add (i.toNat * 6)).block, (ad.add (i.toNat * 6)).off + 4, none⟩ = some (.int .i64 x.f3.f1) ∧ W.cell? ⟨(ad.add (i.toNat * 6)).block, (ad.add (i.toNat * 6)).off + 5, none⟩ = some (.bool x.f4) := by
  subst hx
  obtain ⟨ad, e, h0, h1, h2, h3, h4, h5⟩ := at_T48 h i h0 hi
  exact ⟨ad, e, fun W hb => ⟨(hb.cell (World.block_lt_of_cell? w _ h0)).trans h0, (hb.cell (World.block_lt_of_cell? w _ h1)).trans h1, (hb.cell (World.block_lt_of_cell? w _ h2)).trans h2, (hb.cell (World.block_lt_of_cell? w _ h3)).trans h3, (hb.cell (World.block_lt_of_cell? w _ h4)).trans h4, (hb.cell (World.block_lt_of_cell? w _ h5)).trans h5⟩⟩
theorem merkhetref16_Of_at5 {w W : World} {A : Option Addr} {l : List (List Int)} (h : Kd.C (Kd.slice 2 (Kd.int .i64)) w A l.length l) (hb : Below w.heap.size w W) (i : Int) (hi : 0 ≤ i ∧ i < (l.length : Int)) (v : Int) (hv : 0 ≤ v ∧ v < ((rd_L4 l i).length : Int)) : ∃ ad A1 c1, A = some ad ∧ W.cell? (ad.add i.toNat) = some (.slice (some A1) (rd_L4 l i).length c1) ∧ W.cell? (A1.add v.toNat) = some (.int .i64 (merkhetref16_Of_li l i v)) := by
  obtain ⟨ad, A1, c1, e, h0, h1, h2⟩ := at_L4 h i hi.1 hi.2
  obtain ⟨ad2, e2, h3⟩ := Kd.at_int h2 v hv.1 hv.2
  subst e2
  exact ⟨ad, ad2, c1, e, (hb.cell (World.block_lt_of_cell? w _ h0)).trans h0, (hb.cell (World.block_lt_of_cell? w _ h3)).trans h3⟩
theorem merkhetref16_Of_at6 {w W : World} {A : Option Addr} {l : List (List Int)} (h : Kd.C (Kd.slice 3 (Kd.int .i64)) w A l.length l) (hb : Below w.heap.size w W) (i : Nat) (hi : i < l.length) (v : Int) (hv : 0 ≤ v ∧ v < ((rd_L5 l (i : Int)).length : Int)) : ∃ ad A1 c1, A = some ad ∧ W.cell? (ad.add i) = some (.slice (some A1) (rd_L5 l (i : Int)).length c1) ∧ W.cell? (A1.add v.toNat) = some (.int .i64 (merkhetref16_Of_bi l (i : Int) v)) := by
  obtain ⟨ad, A1, c1, e, h0, h1, h2⟩ := at_L5 h (i : Int) (by omega) (by omega)
  obtain ⟨ad2, e2, h3⟩ := Kd.at_int h2 v hv.1 hv.2
  subst e2
  simp only [Int.toNat_natCast] at h0
  exact ⟨ad, ad2, c1, e, (hb.cell (World.block_lt_of_cell? w _ h0)).trans h0, (hb.cell (World.block_lt_of_cell? w _ h3)).trans h3⟩
theorem merkhetref16_Of_atn {w W : World} {A : Option Addr} {l : List S48} (h : Kd.C k48 w A l.length l) (hb : Below w.heap.size w W) (i : Nat) (hi : i < l.length) (y : Int) (hy : (rd_T48 l (i : Int)).f0 = y) : ∃ ad, A = some ad ∧ W.cell? (ad.add (i * 6)) = some (.int .i64 y) := by
  subst hy
  obtain ⟨ad, e, h0, _⟩ := at_T48 h (i : Int) (by omega) (by omega)
  simp only [Int.toNat_natCast] at h0
  exact ⟨ad, e, (hb.cell (World.block_lt_of_cell? w _ h0)).trans h0⟩
set_option maxHeartbeats 8000000 in
set_option maxRecDepth 100000 in
theorem merkhetref16_Of.calls (k : Nat) (a0 : Int) (A1 : Option Addr) (c1 : Nat) (l1 : List S48) (r : List S48) (w : World) (hr1 : Kd.C k48 w A1 l1.length l1) (hc1 : l1.length ≤ c1) (h : merkhetref16_Of.f k a0 l1 = some r) :
    Calls Try.prog 33 #[.int .i64 a0, .slice A1 l1.length c1] w fun e w' => ∃ v : Value, e = .returned v ∧ Kd.R k48 48 w' w.heap.size (fun _ => True) v r ∧ Below w.heap.size w w' := by
  have hu_ := Try.underlying48
  unfold merkhetref16_Of.f at h
  obtain ⟨⟨lr, br⟩, hlay, h1⟩ := Option.bind_eq_some_iff.mp h
  obtain ⟨⟨so, ok⟩, hsol, h2⟩ := Option.bind_eq_some_iff.mp h1
  have h2 := h2
  simp only at h2
  have HR1 := Aside0.mk hr1
  have HC1 := Aside0.mk hc1
  have HLAY := Aside0.mk hlay
  have HSOL := Aside0.mk hsol
  have HH := Aside0.mk h2
  clear hr1 hc1 h h1 h2 hlay hsol
  go_enter Try.func33, Try.ntmps33
  go_wp2_with (fail)
  refine (merkhetref15_Layers.calls k a0 A1 c1 l1 lr br _ HR1.out HC1.out HLAY.out).mono ?_
  rintro e w4 ⟨v0, v1, rfl, hn0, hn1, hb⟩
  obtain ⟨Al, cl, rfl⟩ := Kd.N_slice hn0
  obtain ⟨Ab, cb, rfl⟩ := Kd.N_slice hn1
  have hrl := Kd.N_reads' hn0
  have hrb := Kd.N_reads' hn1
  have HL4 := Aside0.mk hrl.2.2
  have HBY4 := Aside0.mk hrb.2.2
  have HCL := Aside0.mk hrl.2.1
  have HCB := Aside0.mk hrb.2.1
  have HB4 := Aside0.mk hb
  clear hn0 hn1 hrl hrb hb
  go_wp2_with (fail)
  refine (merkhetref15_Solve.calls k a0 A1 c1 l1 so ok _ (Kd.C_below HR1.out HB4.out) HC1.out HSOL.out).mono ?_
  rintro e w5 ⟨v2, rfl, hv2, hb⟩
  have HL := Aside0.mk (Kd.C_below HL4.out hb)
  have HBY := Aside0.mk (Kd.C_below HBY4.out hb)
  have HB5 := Aside0.mk (below_step HB4.out hb)
  have HR5 := Aside0.mk (Kd.C_below HR1.out (below_step HB4.out hb))
  clear HL4 HBY4 hb HB4 hv2
  by_cases cz : lr.length = 0
  · have h := HH.out
    rw [if_pos cz] at h
    obtain rfl := Option.some.inj h
    have czb : ((lr.length : Int) == 0) = true := by rw [cz]; rfl
    clear h cz
    go_wp2_with (first
        | ((with_reducible refine gate_dst (N := 35) rfl ?_); refine Kd.R_lit k48 (w0 := w) w.heap.size 48 ?hg (N := 35) ?hd (xs := []) (inner := []) (ok := fun _ => True) (okp := fun _ => True) ?hr ?hp (fun _ hk => hk) trivial HB5.out (below_size HB5.out) (by simp) ?_; (case hd => rfl); (case hg => rfl); (case hr => first | (go_simp; done) | (go_simp; rfl)); (case hp => exact (Reps.none _ _)); intro v6 w6 ho hb hg_ hnew_; clear hg_ hnew_; have HO6 := Aside0.mk ho; have HB6 := Aside0.mk hb; clear ho hb))
    go_ret
    exact ⟨_, rfl, HO6.out, HB6.out⟩
  have czb : ((lr.length : Int) == 0) = false := by rw [beq_eq_false_iff_ne]; omega
  have h := HH.out
  rw [if_neg cz] at h
  cases ok with
  | true =>
    rw [if_pos rfl] at h
    obtain rfl := Option.some.inj h
    clear h cz
    go_wp2_with (first
        | ((with_reducible refine gate_dst (N := 35) rfl ?_); refine Kd.R_lit k48 (w0 := w) w.heap.size 48 ?hg (N := 35) ?hd (xs := []) (inner := []) (ok := fun _ => True) (okp := fun _ => True) ?hr ?hp (fun _ hk => hk) trivial HB5.out (below_size HB5.out) (by simp) ?_; (case hd => rfl); (case hg => rfl); (case hr => first | (go_simp; done) | (go_simp; rfl)); (case hp => exact (Reps.none _ _)); intro v6 w6 ho hb hg_ hnew_; clear hg_ hnew_; have HO6 := Aside0.mk ho; have HB6 := Aside0.mk hb; clear ho hb))
    go_ret
    exact ⟨_, rfl, HO6.out, HB6.out⟩
  | false =>
  rw [if_neg Bool.false_ne_true] at h
  unfold merkhetref16_Of_end at h
  by_cases cc : (0 < lr.length ∧ a0 < (lr.length : Int) ∧ 1 ≤ a0) ∧ a0 ≤ 1000 ∧ l1.length ≤ 100000
  case neg => rw [if_neg cc] at h; cases h
  rw [if_pos cc] at h
  obtain ⟨⟨q1, q2, q3⟩, q4, q5⟩ := cc
  obtain ⟨vE, hfv, h3⟩ := Option.bind_eq_some_iff.mp h
  obtain ⟨wayE, hgo, h4⟩ := Option.bind_eq_some_iff.mp h3
  by_cases cw : wayE.length ≤ 100000
  case neg => rw [if_neg cw] at h4; cases h4
  rw [if_pos cw] at h4
  obtain rfl := Option.some.inj h4
  have HFV := Aside0.mk hfv
  have HGO := Aside0.mk hgo
  have HCW := Aside0.mk cw
  clear h h3 h4 hfv hgo cw HH cz q1
  have HBR := Aside0.mk (Below.refl w5.heap.size w5)
  go_wp2_with (fail)
  go_loopg [9] 1000 (fun d v9 wr => ∃ (v : Int), v9 = .int .i64 v ∧ Aside0 (merkhetref16_Of_fv lr a0 d v = some vE) ∧ Aside0 (Below w5.heap.size w5 wr))
  case atStart => exact ⟨0, rfl, HFV, HBR⟩
  case round =>
    clear HFV HBR
    obtain ⟨v, rfl, HFV, HB⟩ := hrel
    cases gk with
    | zero => exact absurd HFV.out (by simp [merkhetref16_Of_fv])
    | succ d =>
    have hg := HFV.out
    unfold merkhetref16_Of_fv at hg
    by_cases cv : (0 ≤ v ∧ v < 1000000) ∧ v < ((rd_L4 lr a0).length : Int) ∧ v < ((rd_L4 lr (a0 - 1)).length : Int)
    case neg => rw [if_neg cv] at hg; cases hg
    rw [if_pos cv] at hg
    obtain ⟨⟨v0, v9⟩, v1, v2⟩ := cv
    obtain ⟨ad, B1, d1, e, g0, g1⟩ := merkhetref16_Of_at5 HL.out HB.out a0 ⟨by omega, q2⟩ v ⟨v0, v1⟩
    cases e
    obtain ⟨ad', B2, d2, e, g2, g3⟩ := merkhetref16_Of_at5 HL.out HB.out (a0 - 1) ⟨by omega, by omega⟩ v ⟨v0, v2⟩
    cases e
    rw [show (a0 - 1).toNat = a0.toNat - 1 by omega] at g2
    have e1 : a0.toNat - 1 < lr.length := by omega
    have e2 : 0 ≤ a0 - 1 := by omega
    have e3 : a0 - 1 < (lr.length : Int) := by omega
    have e4 : 0 ≤ a0 := by omega
    by_cases ct : merkhetref16_Of_li lr a0 v ≥ merkhetref16_Of_li lr (a0 - 1) v
    · rw [if_pos ct] at hg
      have HGN := Aside0.mk hg
      clear hg HFV
      have hwr : IntKind.i64.wrap (a0 - 1) = a0 - 1 := IntWalk.i64_in _ (by omega)
      go_wp2_with (fail)
      go_quiet (fail)
      clear hwr
      go_wp2_with (fail)
      go_roundg d
      case measure => omega
      case rel => exact ⟨v + 1, by first | rfl | go_num, HGN, ⟨pw_below_drewN HB.out _⟩⟩
    · rw [if_neg ct] at hg
      obtain rfl := Option.some.inj hg
      clear hg HFV
      have hwr : IntKind.i64.wrap (a0 - 1) = a0 - 1 := IntWalk.i64_in _ (by omega)
      go_wp2_with (fail)
      go_quiet (fail)
      clear hwr
      clear g0 g1 g2 g3 e1 e2 e3
      have HB6 := Aside0.mk (fun n_ : Nat => pw_below_drewN HB.out n_)
      clear HB
      go_wp2_with (first
        | ((with_reducible refine gate_dst (N := 55) rfl ?_); refine Kd.R_lit (Kd.int .i64) (w0 := w5) w5.heap.size 3 ?hg (N := 55) ?hd (xs := [v]) (inner := [.int .i64 v]) (ok := fun _ => True) (okp := fun _ => False) ?hr ?hp (fun _ hk => hk.elim) trivial (HB6.out _) (below_size (HB6.out _)) (by simp) ?_; (case hd => rfl); (case hg => rfl); (case hr => first | (go_simp; done) | (go_simp; rfl)); (case hp => exact (Reps.one rfl (Reps.none _ _))); intro v7 w7 ho hb hg_ hnew_; clear hg_ hnew_; obtain ⟨A7, c7, e7⟩ := Kd.R_slice ho; subst e7; have HO7 := Aside0.mk ho; have HB7 := Aside0.mk hb; clear ho hb)
        | ((with_reducible refine gate_dst (N := 56) rfl ?_); refine Kd.R_lit k48 (w0 := w5) w5.heap.size 48 ?hg (N := 56) ?hd (xs := []) (inner := []) (ok := fun _ => True) (okp := fun _ => False) ?hr ?hp (fun _ hk => hk.elim) trivial HB7.out (below_size HB7.out) (by simp) ?_; (case hd => rfl); (case hg => rfl); (case hr => first | (go_simp; done) | (go_simp; rfl)); (case hp => exact (Reps.none _ _)); intro v8 w8 ho hb hg_ hnew_; have HO78 := Aside0.mk (Kd.R_grown HO7.out hg_ (fun _ _ => Option.some_ne_none _)); clear hg_ hnew_; have HO8 := Aside0.mk ho; have HB8 := Aside0.mk hb; clear ho hb))
      clear HO7 HB7 HB6
      go_loopg [9, 10, 11, 12] a0.toNat (fun d v9 v10 v11 v12 wr => ∃ (v kk : Int) (met : List Int) (way : List S48), v9 = .int .i64 v ∧ kk = (d : Int) ∧ v12 = .int .i64 kk ∧ Aside0 (merkhetref16_Of_go k br l1 d v met way = some wayE) ∧ Aside0 (Kd.R (Kd.int .i64) 3 wr w5.heap.size (fun _ => True) v10 met) ∧ Aside0 (Kd.R k48 48 wr w5.heap.size (fun _ => True) v11 way) ∧ Aside0 (Below w5.heap.size w5 wr))
      case atStart => exact ⟨v, a0, [v], [], rfl, by omega, rfl, HGO, HO78, HO8, HB8⟩
      case round =>
        clear HGO HO78 HO8 HB8
        obtain ⟨v, kk, met, way, rfl, hkk, rfl, HGO, HM, HW, HB⟩ := hrel
        cases gk with
        | zero => exact absurd HGO.out (by simp [merkhetref16_Of_go])
        | succ d =>
        obtain ⟨j, hj⟩ : ∃ j, j = d + 1 := ⟨_, rfl⟩
        have hg := HGO.out
        unfold merkhetref16_Of_go at hg
        rw [← hj] at hg
        obtain rfl : kk = (j : Int) := by omega
        clear hkk HGO
        by_cases ci : ((j < br.length ∧ met.length + d ≤ 100000 ∧ way.length + d ≤ 100000) ∧ 0 ≤ v ∧ v < ((rd_L5 br (j : Int)).length : Int)) ∧ 0 ≤ merkhetref16_Of_bi br (j : Int) v ∧ merkhetref16_Of_bi br (j : Int) v < (l1.length : Int)
        case neg => rw [if_neg ci] at hg; cases hg
        rw [if_pos ci] at hg
        obtain ⟨⟨⟨p1, p2, p3⟩, p4, p5⟩, p6, p7⟩ := ci
        obtain ⟨adb, B3, d3, e, hx0, hx1⟩ := merkhetref16_Of_at6 HBY.out HB.out j p1 v ⟨p4, p5⟩
        cases e
        obtain ⟨i, hi⟩ : ∃ i, i = merkhetref16_Of_bi br (j : Int) v := ⟨_, rfl⟩
        obtain ⟨x, hx⟩ : ∃ x, rd_T48 l1 i = x := ⟨_, rfl⟩
        rw [← hi] at hx1 p6 p7
        rw [← hi, hx] at hg
        obtain ⟨at_, hat, hg2⟩ := Option.bind_eq_some_iff.mp hg
        obtain ⟨ad2, e, hE⟩ := merkhetref16_Of_at HR5.out i p6 p7 x hx
        cases e
        obtain ⟨h0, h1, h2, h3, h4, h5⟩ := hE wr HB.out
        obtain ⟨A7, c7, e⟩ := Kd.R_slice HM.out
        subst e
        obtain ⟨A8, c8, e⟩ := Kd.R_slice HW.out
        subst e
        have HG2 := Aside0.mk hg2
        have HAT := Aside0.mk hat
        have hj0 : (j : Int) > 0 := by omega
        have hj9 : (j : Int) ≤ 100001 := by omega
        have hjb : (j : Int) < (br.length : Int) := by omega
        have HBX := Aside0.mk (below_alloc HB.out (.cells #[.int .i64 x.f0, .int .i64 x.f1, .int .i64 x.f2, .int .i64 x.f3.f0, .int .i64 x.f3.f1, .bool x.f4] 48 (0, 0)))
        have HKX := Aside0.mk (blk_new wr (.cells #[.int .i64 x.f0, .int .i64 x.f1, .int .i64 x.f2, .int .i64 x.f3.f0, .int .i64 x.f3.f1, .bool x.f4] 48 (0, 0)))
        have HMX := Aside0.mk (Kd.R_alloc HM.out (.cells #[.int .i64 x.f0, .int .i64 x.f1, .int .i64 x.f2, .int .i64 x.f3.f0, .int .i64 x.f3.f1, .bool x.f4] 48 (0, 0)))
        have HWX := Aside0.mk (Kd.R_alloc HW.out (.cells #[.int .i64 x.f0, .int .i64 x.f1, .int .i64 x.f2, .int .i64 x.f3.f0, .int .i64 x.f3.f1, .bool x.f4] 48 (0, 0)))
        have HJ := Aside0.mk hj
        clear hg hg2 hat hi hx hE HB HM HW hj
        go_wp2_with (first
          | ((with_reducible refine gate_dst (N := 73) rfl ?_); refine Kd.R_lit k48 (w0 := w5) w5.heap.size 48 ?hg (N := 73) ?hd (xs := [x]) (inner := [.int .i64 x.f0, .int .i64 x.f1, .int .i64 x.f2, .int .i64 x.f3.f0, .int .i64 x.f3.f1, .bool x.f4]) (ok := fun _ => True) (okp := fun _ => False) ?hr ?hp (fun _ hk => hk.elim) trivial HBX.out (below_size HBX.out) (by simp) ?_; (case hd => rfl); (case hg => rfl); (case hr => first | (go_simp; done) | (go_simp; rfl)); (case hp => exact (Reps.c6 (k48_mkM _ _ _ _) (Reps.none _ _))); intro v9 w9 ho hb hg_ hnew_; have HNE9 := Aside0.mk (show some wr.heap.size ≠ v9.ownBlock by obtain ⟨b_, hb1_, hb2_⟩ := hnew_; rw [hb1_]; rw [World.size_alloc] at hb2_; intro he_; injection he_ with he_; omega); have HM9 := Aside0.mk (Kd.R_grown HMX.out hg_ (fun _ _ => Option.some_ne_none _)); have HW9 := Aside0.mk (Kd.R_grown HWX.out hg_ (fun _ _ => Option.some_ne_none _)); have HK9 := Aside0.mk (blk_grown HKX.out hg_ (Option.some_ne_none _)); clear hg_ hnew_; have HO9 := Aside0.mk ho; have HB9 := Aside0.mk hb; clear ho hb)
          | (at_builtin; refine Kd.R_append_rows k48 (w0 := w5) w5.heap.size rfl (.tmp 73) (.tmp 74) 22 48 (.agg #[.int .i64 0, .int .i64 0, .int .i64 0, .int .i64 0, .int .i64 0, .bool false]) 48 rfl Try.underlying22 info48 rfl (by decide) (by omega) _ [x] way _ _ _ (fun _ => True) (fun _ => False) rfl rfl HO9.out (Kd.R_reads' HW9.out).2.2 (fun _ _ h => h) (fun _ h => h.elim) (fun _ _ => trivial) HB9.out (below_size HB9.out) (by simp only [List.length_singleton]; omega) ?_; intro v10 w10 ho hb hg_ hat_; have HM10 := Aside0.mk (Kd.R_over' HM9.out (Kd.R_typed HO9.out) (by decide) hg_); have HK10 := Aside0.mk (blk_grown HK9.out hg_ HNE9.out); have kx0 : w10.cell? ⟨wr.heap.size, 0, none⟩ = some (.int .i64 x.f0) := (blk_cell HK10.out 0).trans rfl; clear hg_ hat_; obtain ⟨A10, c10, e10⟩ := Kd.R_slice ho; subst e10; have HO10 := Aside0.mk ho; have HB10 := Aside0.mk hb; clear ho hb))
        clear HK10 HK9 HKX HNE9 HBX HMX HWX HB9 HO9 HM9 HW9
        clear kx0 h0 h1 h2 h3 h4 h5 hx0 hx1
        have hrdm := Kd.R_reads' HM10.out
        refine (merkhetref16_place.calls k A7 c7 met x.f0 at_ _ hrdm.2.2 hrdm.2.1 HAT.out).mono ?_
        rintro e w11 ⟨rfl, hd⟩
        have HB11 := Aside0.mk (below_step HB10.out hd.below)
        have HM11 := Aside0.mk (Kd.R_below HM10.out hd.below)
        have HO11 := Aside0.mk (Kd.R_below HO10.out hd.below)
        have hg := HG2.out
        clear hd hrdm HAT HG2 HB10 HM10 HO10
        have hl1 : ([x] ++ way).length = way.length + 1 := by rw [List.length_append, List.length_singleton]; omega
        rw [hl1] at HO11
        by_cases ca : 0 ≤ at_
        · rw [if_pos ca] at hg
          by_cases cb : at_ ≤ (way.length : Int)
          case neg => rw [if_neg cb] at hg; cases hg
          rw [if_pos cb] at hg
          have hwE : wayE = (([x] ++ way).take (way.length + 1 - at_.toNat)) := (Option.some.inj hg).symm
          clear hg
          have cab : at_ ≥ 0 := ca
          obtain ⟨i0_, hi0_, _, hsz_, _⟩ := info_parts info48
          have hcutB := cut_to (P := Try.prog) 22 48 .i64 Try.underlying22 hi0_ A10 (way.length + 1) c10 ((way.length : Int) + 1 - at_) (by omega) (by omega) (Kd.R_reads' HO11.out).2.1
          clear hi0_ hsz_
          have htk : ((way.length : Int) + 1 - at_).toNat = way.length + 1 - at_.toNat := by omega
          rw [htk] at hcutB
          have HWE := Aside0.mk (Kd.R_take (m := way.length + 1 - at_.toNat) HO11.out (by rw [hl1]; omega))
          have hle : (([x] ++ way).take (way.length + 1 - at_.toNat)).length = way.length + 1 - at_.toNat := by rw [List.length_take, hl1]; omega
          have hle0 : way.length + 1 - at_.toNat ≤ way.length + 1 := by omega
          clear htk
          obtain ⟨nE, hnE⟩ : ∃ m, m = way.length + 1 - at_.toNat := ⟨_, rfl⟩
          rw [← hwE] at HWE hle
          rw [← hnE] at HWE hle hcutB hle0
          have hnl : nE ≤ 100001 := by omega
          subst hle
          have HWC := Aside0.mk (Kd.R_reads' HWE.out).2.2
          have HCE := Aside0.mk (Kd.R_reads' HWE.out).2.1
          have HBR := Aside0.mk (Below.refl w11.heap.size w11)
          clear hwE hnE HJ hj0 hj9 hjb HO11 HM11
          go_wp2_with (fail)
          go_loopg [15, 16] wayE.length (fun d v15 v16 wr => ∃ (i s : Nat), i + d = wayE.length ∧ s = Go.Proofs.Ytacjlaiddnfpdaa.H.lsI (loop_turned_x wayE) i ∧ v15 = .int .i64 s ∧ v16 = .int .i64 i ∧ Aside0 (Below w11.heap.size w11 wr))
          case atStart => exact ⟨0, 0, by omega, rfl, rfl, rfl, HBR⟩
          case round =>
            clear HBR
            obtain ⟨i, s, hi, hs, rfl, rfl, HB⟩ := hrel
            by_cases hlt : i < wayE.length
            · have hltz : (i : Int) < (wayE.length : Int) := by omega
              have hsl : s < wayE.length := by
                have := Go.Proofs.Ytacjlaiddnfpdaa.H.lsI_le_n (loop_turned_x wayE) i
                omega
              have hslz : (s : Int) < (wayE.length : Int) := by omega
              obtain ⟨y, hy⟩ : ∃ y, (rd_T48 wayE (i : Int)).f0 = y := ⟨_, rfl⟩
              obtain ⟨z, hz⟩ : ∃ z, (rd_T48 wayE (s : Int)).f0 = z := ⟨_, rfl⟩
              obtain ⟨ad3, e, h0⟩ := merkhetref16_Of_atn HWC.out HB.out i hlt y hy
              cases e
              obtain ⟨ad4, e, h1⟩ := merkhetref16_Of_atn HWC.out HB.out s hsl z hz
              cases e
              have hst : Go.Proofs.Ytacjlaiddnfpdaa.H.lsI (loop_turned_x wayE) (i + 1) = if y < z then i else s := by
                show (if loop_turned_x wayE i < loop_turned_x wayE (Go.Proofs.Ytacjlaiddnfpdaa.H.lsI (loop_turned_x wayE) i) then i else Go.Proofs.Ytacjlaiddnfpdaa.H.lsI (loop_turned_x wayE) i) = _
                rw [← hs]
                show (if (rd_T48 wayE (i : Int)).f0 < (rd_T48 wayE (s : Int)).f0 then i else s) = _
                rw [hy, hz]
              have HST := Aside0.mk hst
              clear hst hs hy hz
              by_cases ct : y < z
              · have HS2 := Aside0.mk (show i = Go.Proofs.Ytacjlaiddnfpdaa.H.lsI (loop_turned_x wayE) (i + 1) by rw [HST.out, if_pos ct])
                clear HST
                go_wp2_with (fail)
                go_quiet (fail)
                go_wp2_with (fail)
                go_roundg (gk - 1)
                case measure => omega
                case rel => exact ⟨i + 1, i, by omega, HS2.out, rfl, by go_num, ⟨pw_below_drewN HB.out _⟩⟩
              · have HS2 := Aside0.mk (show s = Go.Proofs.Ytacjlaiddnfpdaa.H.lsI (loop_turned_x wayE) (i + 1) by rw [HST.out, if_neg ct])
                clear HST
                go_wp2_with (fail)
                go_quiet (fail)
                go_wp2_with (fail)
                go_roundg (gk - 1)
                case measure => omega
                case rel => exact ⟨i + 1, s, by omega, HS2.out, rfl, by go_num, ⟨pw_below_drewN HB.out _⟩⟩
            · have hltz : ¬ (i : Int) < (wayE.length : Int) := by omega
              obtain rfl : i = wayE.length := by omega
              have hsl : s ≤ wayE.length := by
                have := Go.Proofs.Ytacjlaiddnfpdaa.H.lsI_le_n (loop_turned_x wayE) wayE.length
                omega
              have hs' : loop_turned_ls wayE = s := hs.symm
              have HLS := Aside0.mk hs'
              clear hs' hs
              obtain ⟨i0_, hi0_, _, hsz_, _⟩ := info_parts info48
              have hcutA := cut_from (P := Try.prog) 22 48 .i64 Try.underlying22 hi0_ 6 hsz_ A10 wayE.length c10 (s : Int) (by omega) (by omega)
              have hcutC := cut_to (P := Try.prog) 22 48 .i64 Try.underlying22 hi0_ A10 wayE.length c10 (s : Int) (by omega) (by omega) HCE.out
              have hCA : ∀ W, Kd.C k48 W A10 wayE.length wayE → Kd.C k48 W (if c10 = s then A10 else A10.map (·.add (s * 6))) (wayE.length - s) (wayE.drop s) := fun W h_ => by
                have h2_ := Kd.C_drop h_ hsl HCE.out
                rw [show (k48).sz = 6 from rfl, List.length_drop] at h2_
                exact h2_
              have hCB : ∀ W, Kd.C k48 W A10 wayE.length wayE → Kd.C k48 W A10 s (wayE.take s) := fun W h_ => by
                have h2_ := Kd.C_take h_ hsl
                rw [List.length_take, Nat.min_eq_left hsl] at h2_
                exact h2_
              simp only [Int.toNat_natCast] at hcutA hcutC
              generalize (if c10 = s then A10 else A10.map (·.add (s * 6))) = A12 at hcutA hCA
              have HCA := Aside0.mk hCA
              have HCB := Aside0.mk hCB
              clear hCA hCB hi0_ hsz_ hcutB
              have HWD := Aside0.mk (Kd.R_drew (Kd.R_below HWE.out HB.out))
              have HBD := Aside0.mk (below_drew1 (below_step HB11.out HB.out))
              go_wp2_with (fail)
              refine start_ (n := 10) (S := fun w' => True) (ds := []) #[false, false, false, false, false, false, false, false, false, false] (by kernel_rfl) rfl rfl trivial (fun hHeld => ?_)
              refine pure_ (i := 1) (N := some 112) (v := ?_) (a' := ?_) #[false, true, false, false, false, false, false, false, false, false] rfl rfl (by kernel_rfl) (fun _ _ _ h => h) (Or.inl ⟨by rfl, ?_⟩) ?_ ?_
              rotate_left
              · intro w'
                go_simp
                with_reducible rfl
              rotate_left
              · simp only [Act.put, List.setIfInBounds_toArray, List.set_cons_zero, List.set_cons_succ, i64_w, i32_w]
                rfl
              refine pure_ (i := 2) (N := some 113) (v := ?_) (a' := ?_) #[false, true, true, false, false, false, false, false, false, false] rfl rfl (by kernel_rfl) (fun _ _ _ h => h) (Or.inl ⟨by rfl, ?_⟩) ?_ ?_
              rotate_left
              · intro w'
                go_simp
                with_reducible rfl
              rotate_left
              · simp only [Act.put, List.setIfInBounds_toArray, List.set_cons_zero, List.set_cons_succ, i64_w, i32_w]
                rfl
              refine pure_ (i := 3) (N := some 114) (v := ?_) (a' := ?_) #[false, true, true, true, false, false, false, false, false, false] rfl rfl (by kernel_rfl) (fun _ _ _ h => h) (Or.inl ⟨by rfl, ?_⟩) ?_ ?_
              rotate_left
              · intro w'
                go_simp
                with_reducible rfl
              rotate_left
              · simp only [Act.put, List.setIfInBounds_toArray, List.set_cons_zero, List.set_cons_succ, i64_w, i32_w]
                rfl
              refine pure_ (i := 5) (N := some 116) (v := ?_) (a' := ?_) #[false, true, true, true, false, true, false, false, false, false] rfl rfl (by kernel_rfl) (fun _ _ _ h => h) (Or.inl ⟨by rfl, ?_⟩) ?_ ?_
              rotate_left
              · intro w'
                go_simp
                with_reducible rfl
              rotate_left
              · simp only [Act.put, List.setIfInBounds_toArray, List.set_cons_zero, List.set_cons_succ, i64_w, i32_w]
                rfl
              refine pure_ (i := 6) (N := some 117) (v := ?_) (a' := ?_) #[false, true, true, true, false, true, true, false, false, false] rfl rfl (by kernel_rfl) (fun _ _ _ h => h) (Or.inl ⟨by rfl, ?_⟩) ?_ ?_
              rotate_left
              · intro w'
                go_simp
                with_reducible rfl
              rotate_left
              · simp only [Act.put, List.setIfInBounds_toArray, List.set_cons_zero, List.set_cons_succ, i64_w, i32_w]
                rfl
              refine pure_ (i := 7) (N := some 118) (v := ?_) (a' := ?_) #[false, true, true, true, false, true, true, true, false, false] rfl rfl (by kernel_rfl) (fun _ _ _ h => h) (Or.inl ⟨by rfl, ?_⟩) ?_ ?_
              rotate_left
              · intro w'
                go_simp
                with_reducible rfl
              rotate_left
              · simp only [Act.put, List.setIfInBounds_toArray, List.set_cons_zero, List.set_cons_succ, i64_w, i32_w]
                rfl
              refine one_ (i := 0) (N := some 111) #[true, true, true, true, false, true, true, true, false, false] rfl rfl (by kernel_rfl) (by decide) (fun K hK => ?_)
              refine Kd.R_lit_step k48 (w0 := w5) (W := wr.drew) w5.heap.size 48 ?hw (N := 111) ?hd (xs := []) (inner := []) (ok := fun _ => True) (okp := fun _ => False) ?hr ?hp (fun _ hk => hk.elim) trivial HBD.out (below_size HBD.out) (by simp) ?_; (case hd => rfl); (case hw => rfl); (case hr => first | (go_simp; done) | (go_simp; rfl)); (case hp => exact (Reps.none _ _))
              intro v20 w20 ho hb hg_ hnew_
              have HO20 := Aside0.mk ho
              have HB20 := Aside0.mk hb
              have HWD20 := Aside0.mk (Kd.R_elder' HWD.out (v := v20) (fun k_ hk_ => by obtain ⟨b_, hb1_, hb2_⟩ := hnew_; rw [hb1_] at hk_; injection hk_ with hk_; omega) (RowKit.Below.grown (Below.refl _ _) hg_ (Nat.le_refl _) (fun _ h_ => by cases h_)))
              clear ho hb hg_ hnew_
              refine hK.out _ _ trivial (fun hHeld => ?_)
              clear hK K
              refine norm_ (a' := ?_) ?_ ?_
              rotate_left
              · show Act.put _ (some 111) _ = _
                simp only [Act.put, List.setIfInBounds_toArray, List.set_cons_zero, List.set_cons_succ, i64_w, i32_w]
                rfl
              refine one_ (i := 4) (N := some 115) #[true, true, true, true, true, true, true, true, false, false] rfl rfl (by kernel_rfl) (by decide) (fun K hK => ?_)
              refine Kd.R_append_rows_step k48 (w0 := w5) (W := w20) w5.heap.size ?hw (.tmp 111) (.tmp 114) 22 48 (.agg #[.int .i64 0, .int .i64 0, .int .i64 0, .int .i64 0, .int .i64 0, .bool false]) 48 rfl Try.underlying22 info48 rfl (by decide) (by omega) v20 [] (wayE.drop s) _ _ _ (fun _ => True) (fun _ => False) rfl rfl HO20.out ?hc4 (fun _ _ h => h) (fun _ h => h.elim) (fun _ _ => trivial) HB20.out (below_size HB20.out) (by simp only [List.length_nil]; omega) ?_; (case hw => rfl); (case hc4 => exact HCA.out _ (Kd.R_reads' HWD20.out).2.2)
              intro v21 w21 ho hb hg_ hat_
              have HWD21 := Aside0.mk (Kd.R_grown HWD20.out hg_ (fun k_ hk_ => hk_.2))
              have HO21 := Aside0.mk ho
              have HB21 := Aside0.mk hb
              clear ho hb hg_ hat_
              refine hK.out _ _ trivial (fun hHeld => ?_)
              clear hK K
              refine norm_ (a' := ?_) ?_ ?_
              rotate_left
              · show Act.put _ (some 115) _ = _
                simp only [Act.put, List.setIfInBounds_toArray, List.set_cons_zero, List.set_cons_succ, i64_w, i32_w]
                rfl
              refine one_ (i := 8) (N := some 119) #[true, true, true, true, true, true, true, true, true, false] rfl rfl (by kernel_rfl) (by decide) (fun K hK => ?_)
              refine Kd.R_append_rows_step k48 (w0 := w5) (W := w21) w5.heap.size ?hw (.tmp 115) (.tmp 118) 22 48 (.agg #[.int .i64 0, .int .i64 0, .int .i64 0, .int .i64 0, .int .i64 0, .bool false]) 48 rfl Try.underlying22 info48 rfl (by decide) (by omega) v21 ([] ++ wayE.drop s) (wayE.take s) _ _ _ (fun _ => True) (fun _ => False) rfl rfl HO21.out ?hc8 (fun _ _ h => h) (fun _ h => h.elim) (fun _ _ => trivial) HB21.out (below_size HB21.out) (by simp only [List.nil_append, List.length_drop]; omega) ?_; (case hw => rfl); (case hc8 => exact HCB.out _ (Kd.R_reads' HWD21.out).2.2)
              intro v22 w22 ho hb hg_ hat_
              have HO22 := Aside0.mk ho
              have HB22 := Aside0.mk hb
              clear ho hb hg_ hat_
              refine hK.out _ _ trivial (fun hHeld => ?_)
              clear hK K
              refine norm_ (a' := ?_) ?_ ?_
              rotate_left
              · show Act.put _ (some 119) _ = _
                simp only [Act.put, List.setIfInBounds_toArray, List.set_cons_zero, List.set_cons_succ, i64_w, i32_w]
                rfl
              refine pure_ (i := 9) (N := some 4) (v := ?_) (a' := ?_) #[true, true, true, true, true, true, true, true, true, true] rfl rfl (by kernel_rfl) (fun _ _ _ h => h) (Or.inl ⟨by rfl, ?_⟩) ?_ ?_
              rotate_left
              · intro w'
                go_simp
                with_reducible rfl
              rotate_left
              · simp only [Act.put, List.setIfInBounds_toArray, List.set_cons_zero, List.set_cons_succ, i64_w, i32_w]
                rfl
              refine done_ (by kernel_rfl) ?_
              go_wp2_with (fail)
              go_ret
              exact ⟨_, rfl, by rw [HLS.out]; exact Kd.R_lower HO22.out HB5.out.size, below_step HB5.out HB22.out⟩
        · rw [if_neg ca] at hg
          have cab : ¬ at_ ≥ 0 := ca
          have HGN := Aside0.mk hg
          clear hg
          go_wp2_with (first
            | (at_builtin; refine Kd.R_append (Kd.int .i64) (w0 := w5) (W := w11) w5.heap.size rfl (.tmp 89) (.tmp 91) 37 3 (.int .i64 0) 8 rfl Try.underlying37 info3 rfl (by decide) (by omega) _ met x.f0 [.int .i64 x.f0] (fun _ => True) (fun _ => False) rfl rfl rfl (fun _ h => h.elim) (fun _ _ => trivial) HM11.out HB11.out (below_size HB11.out) (by omega) ?_; intro v14 w14 ho hb hg_ hat_; have HO14 := Aside0.mk (Kd.R_over' HO11.out (Kd.R_typed HM11.out) (by decide) hg_); clear hg_ hat_; have HM14 := Aside0.mk ho; have HB14 := Aside0.mk hb; clear ho hb))
          go_roundg d
          case measure => omega
          case rel => exact ⟨x.f0, (j : Int) - 1, met ++ [x.f0], [x] ++ way, rfl, by have := HJ.out; omega, by first | rfl | go_num, HGN, HM14, HO14, HB14⟩


end Go.Proofs.Ytacjlaiddnfpdaa.LD
