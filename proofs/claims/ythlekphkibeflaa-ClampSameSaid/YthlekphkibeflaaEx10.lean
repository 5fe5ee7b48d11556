-- WRITTEN FOR THIS CLAIM by wip/tools/mp.py, a program of this project that drives the kit's print; the functions that the print does not take are this project's own texts.
import Derived.Test.YthlekphkibeflaaEx0
import Derived.Test.YthlekphkibeflaaEx1
import Derived.Test.YthlekphkibeflaaEx3
import Derived.Test.YthlekphkibeflaaEx4
import Derived.Test.YthlekphkibeflaaEx6
import Derived.Test.YthlekphkibeflaaEx8
namespace Go.Proofs.Ythlekphkibeflaa.E
open Go.RowKit Go.Proofs.YthlekphkibeflaaW.PrintWords Go.Proofs.YthlekphkibeflaaW.PrintLast Go.Proofs.YthlekphkibeflaaW.PrintMore
attribute [local go_sem] max2_int min2_int max_two min_two max_three min_three max_four min_four   -- for this text's walks alone
set_option linter.unusedVariables false
set_option linter.unusedSimpArgs false

/-! ### merkhetlaw19_ClampSame: function 5 -/
def merkhetlaw19_ClampSame_fix (k : Nat) : Option Bool := (merkhetlaw19_fixed.f k).bind fun y => if y = true then some true else none
def merkhetlaw19_ClampSame_in (l : List S34) (p : List Int) (i : Nat) : Bool := if 0 ≤ rd p (i : Int) then (if (rd_T34 l (i : Int)).f6 ≥ (rd_T34 l (rd p (i : Int))).f6 then decide (wrap64 ((rd_T34 l (i : Int)).f6 + (rd_T34 l (i : Int)).f7) ≤ wrap64 ((rd_T34 l (rd p (i : Int))).f6 + (rd_T34 l (rd p (i : Int))).f7)) else false) else true
def merkhetlaw19_ClampSame_all (l : List S34) (p : List Int) : Nat → Bool
  | 0 => true
  | i + 1 => merkhetlaw19_ClampSame_all l p i && merkhetlaw19_ClampSame_in l p i
def merkhetlaw19_ClampSame_sp (x : S34) (si : Int) : S34 := ⟨x.f0, x.f1, x.f2, x.f3, x.f4, x.f5, si, x.f7⟩
def merkhetlaw19_ClampSame_ag (l : List S34) (s : List Int) : Nat → List S34
  | 0 => []
  | i + 1 => merkhetlaw19_ClampSame_ag l s i ++ [merkhetlaw19_ClampSame_sp (rd_T34 l (i : Int)) (rd s (i : Int))]
theorem merkhetlaw19_ClampSame_ag_len (l : List S34) (s : List Int) : ∀ i, (merkhetlaw19_ClampSame_ag l s i).length = i
  | 0 => rfl
  | i + 1 => by
    show (merkhetlaw19_ClampSame_ag l s i ++ [_]).length = i + 1
    rw [List.length_append, merkhetlaw19_ClampSame_ag_len l s i]; rfl
def merkhetlaw19_ClampSame_c (l : List S34) (p s : List Int) : Prop := ((s.length = l.length ∧ p.length = l.length) ∧ l.length ≤ 1000000) ∧ ∀ i, i < l.length → rd p (i : Int) < (l.length : Int) ∧ (merkhetlaw19_ClampSame_all l p l.length = true → rd s (i : Int) = (rd_T34 l (i : Int)).f6)
instance (l : List S34) (p s : List Int) : Decidable (merkhetlaw19_ClampSame_c l p s) := by unfold merkhetlaw19_ClampSame_c; infer_instance
def merkhetlaw19_ClampSame.f (k : Nat) (l0 : List S34) : Option Bool :=
  (merkhetlaw04_Great.f k l0).bind fun g => if g = true then merkhetlaw19_ClampSame_fix k else (merkhetref18_May.f k l0).bind fun m => if m = false then merkhetlaw19_ClampSame_fix k else
    (merkhetref10_Of.f k l0).bind fun p => (clamp_Starts.f k l0 p).bind fun y => if y.2 = true ∧ merkhetlaw19_ClampSame_c l0 p y.1 then
      (clamp_Starts.f k (merkhetlaw19_ClampSame_ag l0 y.1 l0.length) p).bind fun z => (merkhetlaw19_ClampSame_fix k).bind fun _ => (merkhetref18_May.f k (merkhetlaw19_ClampSame_ag l0 y.1 l0.length)).bind fun m2 => if m2 = false then some true else if z.2 = true then (merkhetref15_Same.f k z.1 y.1).bind fun b => if b = true then some true else none else none
      else none
theorem merkhetlaw19_ClampSame_fix_mono (k : Nat) : LeO (merkhetlaw19_ClampSame_fix k) (merkhetlaw19_ClampSame_fix (k + 1)) := LeO.bind (merkhetlaw19_fixed.mono _) (fun _ => LeO.refl _)
theorem merkhetlaw19_ClampSame.mono : ∀ a0 k, LeO (merkhetlaw19_ClampSame.f k a0) (merkhetlaw19_ClampSame.f (k + 1) a0) := by
  intro a0 k
  exact LeO.bind (merkhetlaw04_Great.mono _ _) (fun _ => LeO.ite (merkhetlaw19_ClampSame_fix_mono k) (LeO.bind (merkhetref18_May.mono _ _) (fun _ => LeO.ite (merkhetlaw19_ClampSame_fix_mono k) (LeO.bind (merkhetref10_Of.mono _ _) (fun _ => LeO.bind (clamp_Starts.mono _ _ _) (fun _ => LeO.ite (LeO.bind (clamp_Starts.mono _ _ _) (fun _ => LeO.bind (merkhetlaw19_ClampSame_fix_mono k) (fun _ => LeO.bind (merkhetref18_May.mono _ _) (fun _ => LeO.ite (LeO.refl _) (LeO.ite (LeO.bind (merkhetref15_Same.mono _ _ _) (fun _ => LeO.refl _)) (LeO.refl _)))))) (LeO.refl _)))))))
theorem merkhetlaw19_ClampSame_if {c : Prop} [Decidable c] {o : Option Bool} {r : Bool} (h : (if c then o else none) = some r) : c ∧ o = some r := by
  by_cases hc : c
  · exact ⟨hc, by simpa [hc] using h⟩
  · exact absurd h (by simp [hc])
theorem merkhetlaw19_ClampSame_fixed {k : Nat} {r : Bool} (h : merkhetlaw19_ClampSame_fix k = some r) : r = true ∧ merkhetlaw19_fixed.f k = some true := by
  obtain ⟨y, hy, h'⟩ := Option.bind_eq_some_iff.mp h
  obtain ⟨rfl, h2⟩ := merkhetlaw19_ClampSame_if h'
  exact ⟨(Option.some.inj h2).symm, hy⟩
set_option maxHeartbeats 8000000 in
set_option maxRecDepth 100000 in
theorem merkhetlaw19_ClampSame.calls (k : Nat) (A0 : Option Addr) (c0 : Nat) (l0 : List S34) (r : Bool) (w : World) (hr0 : Kd.C k34 w A0 l0.length l0) (hc0 : l0.length ≤ c0) (h : merkhetlaw19_ClampSame.f k l0 = some r) :
    Calls Try.prog 5 #[.slice A0 l0.length c0] w fun e w' => e = .returned (.bool r) ∧ Below w.heap.size w w' := by
  have hu_ := Try.underlying34
  have HR := Aside0.mk hr0
  have HC := Aside0.mk hc0
  clear hr0 hc0
  obtain ⟨g, hg, h'⟩ := Option.bind_eq_some_iff.mp h
  clear h
  have h := h'
  clear h'
  have HGR := Aside0.mk hg
  clear hg
  cases g with
  | true =>
    obtain ⟨rfl, hy⟩ := merkhetlaw19_ClampSame_fixed h
    have HY := Aside0.mk hy
    clear h hy
    go_enter Try.func5, Try.ntmps5
    go_wp2_with (fail)
    refine (merkhetlaw04_Great.calls k A0 c0 l0 true _ HR.out HC.out HGR.out).mono ?_
    rintro e w2 ⟨rfl, hb⟩
    have HB2 := Aside0.mk hb
    clear hb
    go_wp2_with (fail)
    refine (merkhetlaw19_fixed.calls k true _ HY.out).mono ?_
    rintro e w3 ⟨rfl, hb⟩
    have HB3 := Aside0.mk (below_step HB2.out hb)
    clear hb
    go_wp2_with (fail)
    go_ret
    exact ⟨rfl, HB3.out⟩
  | false =>
  rw [if_neg Bool.false_ne_true] at h
  obtain ⟨m, hm, h'⟩ := Option.bind_eq_some_iff.mp h
  clear h
  have h := h'
  clear h'
  have HM := Aside0.mk hm
  clear hm
  cases m with
  | false =>
    obtain ⟨rfl, hy⟩ := merkhetlaw19_ClampSame_fixed (show merkhetlaw19_ClampSame_fix k = some r by rw [if_pos rfl] at h; exact h)
    have HY := Aside0.mk hy
    clear h hy
    go_enter Try.func5, Try.ntmps5
    go_wp2_with (fail)
    refine (merkhetlaw04_Great.calls k A0 c0 l0 false _ HR.out HC.out HGR.out).mono ?_
    rintro e w2 ⟨rfl, hb⟩
    have HB2 := Aside0.mk hb
    clear hb
    go_wp2_with (fail)
    refine (merkhetref18_May.calls k A0 c0 l0 false _ (Kd.C_below HR.out HB2.out) HC.out HM.out).mono ?_
    rintro e w3 ⟨rfl, hb⟩
    have HB3 := Aside0.mk (below_step HB2.out hb)
    clear hb
    go_wp2_with (fail)
    refine (merkhetlaw19_fixed.calls k true _ HY.out).mono ?_
    rintro e w4 ⟨rfl, hb⟩
    have HB4 := Aside0.mk (below_step HB3.out hb)
    clear hb
    go_wp2_with (fail)
    go_ret
    exact ⟨rfl, HB4.out⟩
  | true =>
  rw [if_neg (show ¬ true = false by decide)] at h
  obtain ⟨p, hp, h'⟩ := Option.bind_eq_some_iff.mp h
  clear h
  obtain ⟨⟨s, ok⟩, hs, h⟩ := Option.bind_eq_some_iff.mp h'
  clear h'
  obtain ⟨⟨hok, hc⟩, hgo⟩ := merkhetlaw19_ClampSame_if h
  clear h
  simp only at hok hc hgo
  subst hok
  have HP := Aside0.mk hp
  have HST := Aside0.mk hs
  have HH := Aside0.mk hgo
  have HCND := Aside0.mk hc.2
  have HSL := Aside0.mk hc.1.1.1
  have HPL := Aside0.mk hc.1.1.2
  have HLL := Aside0.mk hc.1.2
  have hlen : ((s.length : Int) != (l0.length : Int)) = false := by rw [hc.1.1.1]; simp
  clear hp hs hgo hc
  go_enter Try.func5, Try.ntmps5
  go_wp2_with (fail)
  refine (merkhetlaw04_Great.calls k A0 c0 l0 false _ HR.out HC.out HGR.out).mono ?_
  rintro e w2 ⟨rfl, hb⟩
  have HB2 := Aside0.mk hb
  clear hb
  go_wp2_with (fail)
  refine (merkhetref18_May.calls k A0 c0 l0 true _ (Kd.C_below HR.out HB2.out) HC.out HM.out).mono ?_
  rintro e w2' ⟨rfl, hb⟩
  have HB2' := Aside0.mk (below_step HB2.out hb)
  clear hb
  go_wp2_with (fail)
  refine (merkhetref10_Of.calls k A0 c0 l0 p _ (Kd.C_below HR.out HB2'.out) HC.out HP.out).mono ?_
  rintro e w3 ⟨v3, rfl, hO, hb3⟩
  obtain ⟨Ap, cp, rfl⟩ := Kd.R_slice hO
  have hrd := Kd.R_reads' hO
  have HPC3 := Aside0.mk hrd.2.2
  have HCP := Aside0.mk hrd.2.1
  have HB3 := Aside0.mk (below_step HB2'.out hb3)
  clear hrd hO hb3
  go_wp2_with (fail)
  refine (clamp_Starts.calls k A0 c0 l0 Ap cp p s true _ (Kd.C_below HR.out HB3.out) HC.out HPC3.out HCP.out HST.out).mono ?_
  rintro e w4 ⟨v4, rfl, hO, hb4⟩
  obtain ⟨As, cs, rfl⟩ := Kd.R_slice hO
  have hrd := Kd.R_reads' hO
  have HSC := Aside0.mk hrd.2.2
  have HCS := Aside0.mk hrd.2.1
  have HPC := Aside0.mk (Kd.C_below HPC3.out hb4)
  have HB4 := Aside0.mk (below_step HB3.out hb4)
  have HRC := Aside0.mk (Kd.C_below HR.out HB4.out)
  clear hrd hO hb4
  go_wp2_with (fail)
  go_loopg [6, 7, 41] l0.length (fun d v6 v7 v41 wr => ∃ (i : Nat) (va : Value), i + d = l0.length ∧ v41 = .int .i64 i ∧ v6 = .bool (merkhetlaw19_ClampSame_all l0 p i) ∧ va = v7 ∧ Aside0 (Kd.R k34 34 wr w4.heap.size (fun _ => True) va (merkhetlaw19_ClampSame_ag l0 s i)) ∧ Aside0 (Below w4.heap.size w4 wr))
  case atStart => exact ⟨0, _, by omega, rfl, rfl, rfl, ⟨Kd.R_nil _ _ _ _ _⟩, ⟨by first | exact Below.refl _ _ | exact pw_below_drewN (Below.refl _ _) _⟩⟩
  case round =>
    obtain ⟨i, va, hi, rfl, rfl, rfl, HA, HB⟩ := hrel
    by_cases hlt : i < l0.length
    · have hltz : (i : Int) < (l0.length : Int) := by omega
      have hnn := HLL.out
      have HAL := Aside0.mk (merkhetlaw19_ClampSame_ag_len l0 s i)
      have hcz := HCND.out i hlt
      obtain ⟨ad, e, y0, y1, y2, y3, y4, y5, y6, y7⟩ := at_T34 HRC.out (i : Int) (by omega) hltz
      cases e
      replace y0 := (HB.out.cell (World.block_lt_of_cell? w4 _ y0)).trans y0
      replace y1 := (HB.out.cell (World.block_lt_of_cell? w4 _ y1)).trans y1
      replace y2 := (HB.out.cell (World.block_lt_of_cell? w4 _ y2)).trans y2
      replace y3 := (HB.out.cell (World.block_lt_of_cell? w4 _ y3)).trans y3
      replace y4 := (HB.out.cell (World.block_lt_of_cell? w4 _ y4)).trans y4
      replace y5 := (HB.out.cell (World.block_lt_of_cell? w4 _ y5)).trans y5
      replace y6 := (HB.out.cell (World.block_lt_of_cell? w4 _ y6)).trans y6
      replace y7 := (HB.out.cell (World.block_lt_of_cell? w4 _ y7)).trans y7
      simp only [Int.toNat_natCast] at y0 y1 y2 y3 y4 y5 y6 y7
      obtain ⟨ap, e, hpi⟩ := Kd.at_int HPC.out (i : Int) (by omega) (by have := HPL.out; omega)
      cases e
      obtain ⟨az, e, hsi⟩ := Kd.at_int HSC.out (i : Int) (by omega) (by have := HSL.out; omega)
      cases e
      replace hpi := (HB.out.cell (World.block_lt_of_cell? w4 _ hpi)).trans hpi
      replace hsi := (HB.out.cell (World.block_lt_of_cell? w4 _ hsi)).trans hsi
      simp only [Int.toNat_natCast] at hpi hsi
      have i1p := eq_true (show (i : Int) < (p.length : Int) by have := HPL.out; omega)
      have i1s := eq_true (show (i : Int) < (s.length : Int) by have := HSL.out; omega)
      have hin : merkhetlaw19_ClampSame_in l0 p i = (if 0 ≤ rd p (i : Int) then (if (rd_T34 l0 (i : Int)).f6 ≥ (rd_T34 l0 (rd p (i : Int))).f6 then decide (wrap64 ((rd_T34 l0 (i : Int)).f6 + (rd_T34 l0 (i : Int)).f7) ≤ wrap64 ((rd_T34 l0 (rd p (i : Int))).f6 + (rd_T34 l0 (rd p (i : Int))).f7)) else false) else true) := rfl
      have hall : merkhetlaw19_ClampSame_all l0 p (i + 1) = (merkhetlaw19_ClampSame_all l0 p i && merkhetlaw19_ClampSame_in l0 p i) := rfl
      have hag : merkhetlaw19_ClampSame_ag l0 s (i + 1) = merkhetlaw19_ClampSame_ag l0 s i ++ [merkhetlaw19_ClampSame_sp (rd_T34 l0 (i : Int)) (rd s (i : Int))] := rfl
      have hq1 := hcz.1
      clear hcz
      generalize rd_T34 l0 (i : Int) = x at y0 y1 y2 y3 y4 y5 y6 y7 hin hag
      generalize rd s (i : Int) = si at hsi hag
      generalize rd p (i : Int) = q at hpi hin hq1
      generalize merkhetlaw19_ClampSame_all l0 p i = al at hall ⊢
      have HAG := Aside0.mk (show merkhetlaw19_ClampSame_ag l0 s (i + 1) = merkhetlaw19_ClampSame_ag l0 s i ++ [(⟨x.f0, x.f1, x.f2, x.f3, x.f4, x.f5, si, x.f7⟩ : S34)] from hag)
      have HALL := Aside0.mk hall
      have HIN := Aside0.mk hin
      clear hall hin hag
      have hp' : ∀ o : Obj, (wr.alloc o).cell? (ap.add i) = some (.int .i64 q) := fun o => ((below_alloc (Below.refl wr.heap.size wr) o).cell (World.block_lt_of_cell? wr _ hpi)).trans hpi
      have hs' : ∀ o : Obj, (wr.alloc o).cell? (az.add i) = some (.int .i64 si) := fun o => ((below_alloc (Below.refl wr.heap.size wr) o).cell (World.block_lt_of_cell? wr _ hsi)).trans hsi
      have HAB := Aside0.mk (Kd.R_mono (ok' := fun k => k ≠ wr.heap.size) (Kd.R_bound HA.out) (fun k hk => Nat.ne_of_lt hk.2.2.1))
      by_cases cq : 0 ≤ q
      · have cqb := decide_eq_true cq
        have cqc := eq_true cq
        have q1c := eq_true hq1
        obtain ⟨ad2, e, -, -, -, -, -, -, z6, z7⟩ := at_T34 HRC.out q cq hq1
        cases e
        replace z6 := (HB.out.cell (World.block_lt_of_cell? w4 _ z6)).trans z6
        replace z7 := (HB.out.cell (World.block_lt_of_cell? w4 _ z7)).trans z7
        have hin := HIN.out
        rw [if_pos cq] at hin
        generalize rd_T34 l0 q = y at z6 z7 hin
        have z6' : ∀ o : Obj, (wr.alloc o).cell? ⟨(ad.add (q.toNat * 8)).block, (ad.add (q.toNat * 8)).off + 6, none⟩ = some (.int .i64 y.f6) := fun o => ((below_alloc (Below.refl wr.heap.size wr) o).cell (World.block_lt_of_cell? wr _ z6)).trans z6
        have z7' : ∀ o : Obj, (wr.alloc o).cell? ⟨(ad.add (q.toNat * 8)).block, (ad.add (q.toNat * 8)).off + 7, none⟩ = some (.int .i64 y.f7) := fun o => ((below_alloc (Below.refl wr.heap.size wr) o).cell (World.block_lt_of_cell? wr _ z7)).trans z7
        have HIN2 := Aside0.mk hin
        clear hin z6 z7 HIN
        cases al with
        | false =>
          go_wp2_with (fail)
          go_quiet (fail)
          have HROW : Kd.R k34 34 (((wr.alloc (.cells #[.int .u64 x.f0, .int .u64 x.f1, .int .u64 x.f2, .int .u8 x.f3, .string x.f4, .string x.f5, .int .i64 x.f6, .int .i64 x.f7] 34 (0, 0))).drewN nq).setCell ⟨wr.heap.size, 6, none⟩ (.int .i64 si)) w4.heap.size (fun _ => True) va (merkhetlaw19_ClampSame_ag l0 s i) := Kd.R_mono (Kd.R_far (p := ⟨wr.heap.size, 6, none⟩) (Kd.R_drewN (Kd.R_alloc HAB.out _) nq) (fun k hk => hk) _) (fun _ _ => trivial)
          have HSZ : w4.heap.size ≤ (((wr.alloc (.cells #[.int .u64 x.f0, .int .u64 x.f1, .int .u64 x.f2, .int .u8 x.f3, .string x.f4, .string x.f5, .int .i64 x.f6, .int .i64 x.f7] 34 (0, 0))).drewN nq).setCell ⟨wr.heap.size, 6, none⟩ (.int .i64 si)).heap.size := (below_set (pw_below_drewN (below_alloc HB.out _) nq) HB.out.size : Below w4.heap.size w4 (((wr.alloc (.cells #[.int .u64 x.f0, .int .u64 x.f1, .int .u64 x.f2, .int .u8 x.f3, .string x.f4, .string x.f5, .int .i64 x.f6, .int .i64 x.f7] 34 (0, 0))).drewN nq).setCell ⟨wr.heap.size, 6, none⟩ (.int .i64 si))).size
          have HBc := Aside0.mk (below_set (pw_below_drewN (below_alloc HB.out _) nq) HB.out.size : Below w4.heap.size w4 (((wr.alloc (.cells #[.int .u64 x.f0, .int .u64 x.f1, .int .u64 x.f2, .int .u8 x.f3, .string x.f4, .string x.f5, .int .i64 x.f6, .int .i64 x.f7] 34 (0, 0))).drewN nq).setCell ⟨wr.heap.size, 6, none⟩ (.int .i64 si)))
          obtain ⟨Aa, ca, rfl⟩ := Kd.R_slice HA.out
          have HBASE := Aside0.mk (fun (q : Nat) (e : some q = Value.ownBlock (.slice Aa (merkhetlaw19_ClampSame_ag l0 s i).length ca)) => Kd.R_base HA.out q e.symm)
          go_wp2_with (first | (at_builtin; refine Kd.R_append k34 w4.heap.size rfl _ _ 22 34 (.agg #[(.int .u64 0), (.int .u64 0), (.int .u64 0), (.int .u8 0), (.string ⟨#[]⟩), (.string ⟨#[]⟩), (.int .i64 0), (.int .i64 0)]) 80 rfl Try.underlying22 info34 rfl (by decide) (by decide) (.slice Aa (merkhetlaw19_ClampSame_ag l0 s i).length ca) (merkhetlaw19_ClampSame_ag l0 s i) (⟨x.f0, x.f1, x.f2, x.f3, x.f4, x.f5, si, x.f7⟩ : S34) [.int .u64 x.f0, .int .u64 x.f1, .int .u64 x.f2, .int .u8 x.f3, .string x.f4, .string x.f5, .int .i64 si, .int .i64 x.f7] (fun _ => True) (fun _ => False) rfl (by first | rfl | (go_simp; done) | (go_simp; rfl) | simp) (k34_mkM _ _ _ (⟨x.f0, x.f1, x.f2, x.f3, x.f4, x.f5, si, x.f7⟩ : S34)) (fun q hq => hq.elim) (fun q hq => trivial) HROW (Below.refl _ _) HSZ (by rw [HAL.out]; omega) ?_; intro v1 w1 hr1 hb1 hg1 hat1))
          have HBn := Aside0.mk (pw_below_grown (B := w4.heap.size) HBc.out _ HBc.out.size hg1 (fun q e => HBASE.out q e.symm))
          go_wp2_with (fail)
          go_roundg (l0.length - (i + 1))
          case measure => omega
          case rel => exact ⟨i + 1, _, by omega, by first | go_num | rfl, by rw [HALL.out]; rfl, rfl, ⟨by rw [HAG.out]; exact hr1⟩, HBn⟩
        | true =>
          by_cases d1 : y.f6 ≤ x.f6
          · have d1b := decide_eq_true d1
            go_wp2_with (fail)
            go_quiet (fail)
            have HROW : Kd.R k34 34 (((wr.alloc (.cells #[.int .u64 x.f0, .int .u64 x.f1, .int .u64 x.f2, .int .u8 x.f3, .string x.f4, .string x.f5, .int .i64 x.f6, .int .i64 x.f7] 34 (0, 0))).drewN nq).setCell ⟨wr.heap.size, 6, none⟩ (.int .i64 si)) w4.heap.size (fun _ => True) va (merkhetlaw19_ClampSame_ag l0 s i) := Kd.R_mono (Kd.R_far (p := ⟨wr.heap.size, 6, none⟩) (Kd.R_drewN (Kd.R_alloc HAB.out _) nq) (fun k hk => hk) _) (fun _ _ => trivial)
            have HSZ : w4.heap.size ≤ (((wr.alloc (.cells #[.int .u64 x.f0, .int .u64 x.f1, .int .u64 x.f2, .int .u8 x.f3, .string x.f4, .string x.f5, .int .i64 x.f6, .int .i64 x.f7] 34 (0, 0))).drewN nq).setCell ⟨wr.heap.size, 6, none⟩ (.int .i64 si)).heap.size := (below_set (pw_below_drewN (below_alloc HB.out _) nq) HB.out.size : Below w4.heap.size w4 (((wr.alloc (.cells #[.int .u64 x.f0, .int .u64 x.f1, .int .u64 x.f2, .int .u8 x.f3, .string x.f4, .string x.f5, .int .i64 x.f6, .int .i64 x.f7] 34 (0, 0))).drewN nq).setCell ⟨wr.heap.size, 6, none⟩ (.int .i64 si))).size
            have HBc := Aside0.mk (below_set (pw_below_drewN (below_alloc HB.out _) nq) HB.out.size : Below w4.heap.size w4 (((wr.alloc (.cells #[.int .u64 x.f0, .int .u64 x.f1, .int .u64 x.f2, .int .u8 x.f3, .string x.f4, .string x.f5, .int .i64 x.f6, .int .i64 x.f7] 34 (0, 0))).drewN nq).setCell ⟨wr.heap.size, 6, none⟩ (.int .i64 si)))
            obtain ⟨Aa, ca, rfl⟩ := Kd.R_slice HA.out
            have HBASE := Aside0.mk (fun (q : Nat) (e : some q = Value.ownBlock (.slice Aa (merkhetlaw19_ClampSame_ag l0 s i).length ca)) => Kd.R_base HA.out q e.symm)
            go_wp2_with (first | (at_builtin; refine Kd.R_append k34 w4.heap.size rfl _ _ 22 34 (.agg #[(.int .u64 0), (.int .u64 0), (.int .u64 0), (.int .u8 0), (.string ⟨#[]⟩), (.string ⟨#[]⟩), (.int .i64 0), (.int .i64 0)]) 80 rfl Try.underlying22 info34 rfl (by decide) (by decide) (.slice Aa (merkhetlaw19_ClampSame_ag l0 s i).length ca) (merkhetlaw19_ClampSame_ag l0 s i) (⟨x.f0, x.f1, x.f2, x.f3, x.f4, x.f5, si, x.f7⟩ : S34) [.int .u64 x.f0, .int .u64 x.f1, .int .u64 x.f2, .int .u8 x.f3, .string x.f4, .string x.f5, .int .i64 si, .int .i64 x.f7] (fun _ => True) (fun _ => False) rfl (by first | rfl | (go_simp; done) | (go_simp; rfl) | simp) (k34_mkM _ _ _ (⟨x.f0, x.f1, x.f2, x.f3, x.f4, x.f5, si, x.f7⟩ : S34)) (fun q hq => hq.elim) (fun q hq => trivial) HROW (Below.refl _ _) HSZ (by rw [HAL.out]; omega) ?_; intro v1 w1 hr1 hb1 hg1 hat1))
            have HBn := Aside0.mk (pw_below_grown (B := w4.heap.size) HBc.out _ HBc.out.size hg1 (fun q e => HBASE.out q e.symm))
            go_wp2_with (fail)
            go_roundg (l0.length - (i + 1))
            case measure => omega
            case rel => exact ⟨i + 1, _, by omega, by first | go_num | rfl, by rw [HALL.out, HIN2.out, if_pos d1]; simp, rfl, ⟨by rw [HAG.out]; exact hr1⟩, HBn⟩
          · have d1b := decide_eq_false d1
            go_wp2_with (fail)
            go_quiet (fail)
            have HROW : Kd.R k34 34 (((wr.alloc (.cells #[.int .u64 x.f0, .int .u64 x.f1, .int .u64 x.f2, .int .u8 x.f3, .string x.f4, .string x.f5, .int .i64 x.f6, .int .i64 x.f7] 34 (0, 0))).drewN nq).setCell ⟨wr.heap.size, 6, none⟩ (.int .i64 si)) w4.heap.size (fun _ => True) va (merkhetlaw19_ClampSame_ag l0 s i) := Kd.R_mono (Kd.R_far (p := ⟨wr.heap.size, 6, none⟩) (Kd.R_drewN (Kd.R_alloc HAB.out _) nq) (fun k hk => hk) _) (fun _ _ => trivial)
            have HSZ : w4.heap.size ≤ (((wr.alloc (.cells #[.int .u64 x.f0, .int .u64 x.f1, .int .u64 x.f2, .int .u8 x.f3, .string x.f4, .string x.f5, .int .i64 x.f6, .int .i64 x.f7] 34 (0, 0))).drewN nq).setCell ⟨wr.heap.size, 6, none⟩ (.int .i64 si)).heap.size := (below_set (pw_below_drewN (below_alloc HB.out _) nq) HB.out.size : Below w4.heap.size w4 (((wr.alloc (.cells #[.int .u64 x.f0, .int .u64 x.f1, .int .u64 x.f2, .int .u8 x.f3, .string x.f4, .string x.f5, .int .i64 x.f6, .int .i64 x.f7] 34 (0, 0))).drewN nq).setCell ⟨wr.heap.size, 6, none⟩ (.int .i64 si))).size
            have HBc := Aside0.mk (below_set (pw_below_drewN (below_alloc HB.out _) nq) HB.out.size : Below w4.heap.size w4 (((wr.alloc (.cells #[.int .u64 x.f0, .int .u64 x.f1, .int .u64 x.f2, .int .u8 x.f3, .string x.f4, .string x.f5, .int .i64 x.f6, .int .i64 x.f7] 34 (0, 0))).drewN nq).setCell ⟨wr.heap.size, 6, none⟩ (.int .i64 si)))
            obtain ⟨Aa, ca, rfl⟩ := Kd.R_slice HA.out
            have HBASE := Aside0.mk (fun (q : Nat) (e : some q = Value.ownBlock (.slice Aa (merkhetlaw19_ClampSame_ag l0 s i).length ca)) => Kd.R_base HA.out q e.symm)
            go_wp2_with (first | (at_builtin; refine Kd.R_append k34 w4.heap.size rfl _ _ 22 34 (.agg #[(.int .u64 0), (.int .u64 0), (.int .u64 0), (.int .u8 0), (.string ⟨#[]⟩), (.string ⟨#[]⟩), (.int .i64 0), (.int .i64 0)]) 80 rfl Try.underlying22 info34 rfl (by decide) (by decide) (.slice Aa (merkhetlaw19_ClampSame_ag l0 s i).length ca) (merkhetlaw19_ClampSame_ag l0 s i) (⟨x.f0, x.f1, x.f2, x.f3, x.f4, x.f5, si, x.f7⟩ : S34) [.int .u64 x.f0, .int .u64 x.f1, .int .u64 x.f2, .int .u8 x.f3, .string x.f4, .string x.f5, .int .i64 si, .int .i64 x.f7] (fun _ => True) (fun _ => False) rfl (by first | rfl | (go_simp; done) | (go_simp; rfl) | simp) (k34_mkM _ _ _ (⟨x.f0, x.f1, x.f2, x.f3, x.f4, x.f5, si, x.f7⟩ : S34)) (fun q hq => hq.elim) (fun q hq => trivial) HROW (Below.refl _ _) HSZ (by rw [HAL.out]; omega) ?_; intro v1 w1 hr1 hb1 hg1 hat1))
            have HBn := Aside0.mk (pw_below_grown (B := w4.heap.size) HBc.out _ HBc.out.size hg1 (fun q e => HBASE.out q e.symm))
            go_wp2_with (fail)
            go_roundg (l0.length - (i + 1))
            case measure => omega
            case rel => exact ⟨i + 1, _, by omega, by first | go_num | rfl, by rw [HALL.out, HIN2.out, if_neg (show ¬ x.f6 ≥ y.f6 by omega)]; rfl, rfl, ⟨by rw [HAG.out]; exact hr1⟩, HBn⟩
      · have cqb := decide_eq_false cq
        have HROW : Kd.R k34 34 ((wr.alloc (.cells #[.int .u64 x.f0, .int .u64 x.f1, .int .u64 x.f2, .int .u8 x.f3, .string x.f4, .string x.f5, .int .i64 si, .int .i64 x.f7] 34 (0, 0)))) w4.heap.size (fun _ => True) va (merkhetlaw19_ClampSame_ag l0 s i) := Kd.R_alloc HA.out _
        have HSZ : w4.heap.size ≤ ((wr.alloc (.cells #[.int .u64 x.f0, .int .u64 x.f1, .int .u64 x.f2, .int .u8 x.f3, .string x.f4, .string x.f5, .int .i64 si, .int .i64 x.f7] 34 (0, 0)))).heap.size := (below_alloc HB.out _ : Below w4.heap.size w4 ((wr.alloc (.cells #[.int .u64 x.f0, .int .u64 x.f1, .int .u64 x.f2, .int .u8 x.f3, .string x.f4, .string x.f5, .int .i64 si, .int .i64 x.f7] 34 (0, 0))))).size
        have HBc := Aside0.mk (below_alloc HB.out _ : Below w4.heap.size w4 ((wr.alloc (.cells #[.int .u64 x.f0, .int .u64 x.f1, .int .u64 x.f2, .int .u8 x.f3, .string x.f4, .string x.f5, .int .i64 si, .int .i64 x.f7] 34 (0, 0)))))
        obtain ⟨Aa, ca, rfl⟩ := Kd.R_slice HA.out
        have HBASE := Aside0.mk (fun (q : Nat) (e : some q = Value.ownBlock (.slice Aa (merkhetlaw19_ClampSame_ag l0 s i).length ca)) => Kd.R_base HA.out q e.symm)
        go_wp2_with (first | (at_builtin; refine Kd.R_append k34 w4.heap.size rfl _ _ 22 34 (.agg #[(.int .u64 0), (.int .u64 0), (.int .u64 0), (.int .u8 0), (.string ⟨#[]⟩), (.string ⟨#[]⟩), (.int .i64 0), (.int .i64 0)]) 80 rfl Try.underlying22 info34 rfl (by decide) (by decide) (.slice Aa (merkhetlaw19_ClampSame_ag l0 s i).length ca) (merkhetlaw19_ClampSame_ag l0 s i) (⟨x.f0, x.f1, x.f2, x.f3, x.f4, x.f5, si, x.f7⟩ : S34) [.int .u64 x.f0, .int .u64 x.f1, .int .u64 x.f2, .int .u8 x.f3, .string x.f4, .string x.f5, .int .i64 si, .int .i64 x.f7] (fun _ => True) (fun _ => False) rfl (by first | rfl | (go_simp; done) | (go_simp; rfl) | simp) (k34_mkM _ _ _ (⟨x.f0, x.f1, x.f2, x.f3, x.f4, x.f5, si, x.f7⟩ : S34)) (fun q hq => hq.elim) (fun q hq => trivial) HROW (Below.refl _ _) HSZ (by rw [HAL.out]; omega) ?_; intro v1 w1 hr1 hb1 hg1 hat1))
        have HBn := Aside0.mk (pw_below_grown (B := w4.heap.size) HBc.out _ HBc.out.size hg1 (fun q e => HBASE.out q e.symm))
        go_wp2_with (fail)
        go_roundg (l0.length - (i + 1))
        case measure => omega
        case rel => exact ⟨i + 1, _, by omega, by first | go_num | rfl, by rw [HALL.out, HIN.out, if_neg (show ¬ 0 ≤ q by omega)]; simp, rfl, ⟨by rw [HAG.out]; exact hr1⟩, HBn⟩
    · obtain rfl : i = l0.length := by omega
      have hnn := HLL.out
      have HALN := Aside0.mk (fun (ha : merkhetlaw19_ClampSame_all l0 p l0.length = true) (i : Nat) (hi : i < l0.length) => (HCND.out i hi).2 ha)
      generalize merkhetlaw19_ClampSame_all l0 p l0.length = al at HALN ⊢
      obtain ⟨Aa, ca, rfl⟩ := Kd.R_slice HA.out
      have hrd := Kd.R_reads' HA.out
      have HAC := Aside0.mk hrd.2.2
      have HCA := Aside0.mk hrd.2.1
      have HAGL := Aside0.mk (merkhetlaw19_ClampSame_ag_len l0 s l0.length)
      clear hrd HA
      go_wp2_with (fail)
      go_loopg [94] l0.length (fun d v94 wq => ∃ (i : Nat), i + d = l0.length ∧ v94 = .int .i64 i ∧ Aside0 (Below wr.heap.size wr wq))
      case atStart => exact ⟨0, by omega, rfl, ⟨by first | exact Below.refl _ _ | exact pw_below_drewN (Below.refl _ _) _⟩⟩
      case round =>
        obtain ⟨i, hi, rfl, HBq⟩ := hrel
        have HBV := Aside0.mk (below_step HB.out HBq.out)
        by_cases hlt : i < l0.length
        · have hltz : (i : Int) < (l0.length : Int) := by omega
          cases al with
          | false =>
            go_wp2_with (fail)
            go_quiet (fail)
            go_wp2_with (fail)
            go_roundg (l0.length - (i + 1))
            case measure => omega
            case rel => exact ⟨i + 1, by omega, by first | go_num | rfl, ⟨by first | exact pw_below_drewN HBq.out _ | exact HBq.out⟩⟩
          | true =>
            have heq := HALN.out rfl i hlt
            obtain ⟨ad, e, -, -, -, -, -, -, y6, -⟩ := at_T34 HRC.out (i : Int) (by omega) hltz
            cases e
            obtain ⟨az, e, hsi⟩ := Kd.at_int HSC.out (i : Int) (by omega) (by have := HSL.out; omega)
            cases e
            replace y6 := (HBV.out.cell (World.block_lt_of_cell? w4 _ y6)).trans y6
            replace hsi := (HBV.out.cell (World.block_lt_of_cell? w4 _ hsi)).trans hsi
            rw [heq] at hsi
            simp only [Int.toNat_natCast] at y6 hsi
            have i1s := eq_true (show (i : Int) < (s.length : Int) by have := HSL.out; omega)
            generalize (rd_T34 l0 (i : Int)).f6 = x6 at y6 hsi
            have hxx : (x6 != x6) = false := by simp
            clear heq
            go_wp2_with (fail)
            go_quiet (fail)
            go_wp2_with (fail)
            go_roundg (l0.length - (i + 1))
            case measure => omega
            case rel => exact ⟨i + 1, by omega, by first | go_num | rfl, ⟨by first | exact pw_below_drewN HBq.out _ | exact HBq.out⟩⟩
        · obtain rfl : i = l0.length := by omega
          obtain ⟨⟨t, is⟩, hz, h'⟩ := Option.bind_eq_some_iff.mp HH.out
          obtain ⟨u, hu, h2⟩ := Option.bind_eq_some_iff.mp h'
          obtain ⟨rfl, hy⟩ := merkhetlaw19_ClampSame_fixed hu
          obtain ⟨m2, hm2, h3⟩ := Option.bind_eq_some_iff.mp h2
          have HZ := Aside0.mk hz
          have HY := Aside0.mk hy
          have HM2 := Aside0.mk hm2
          have H3 := Aside0.mk h3
          clear h' h2 h3 hu hy hm2 hz HH
          have HBW := Aside0.mk (below_step HB4.out HBV.out)
          go_wp2_with (fail)
          refine (clamp_Starts.calls k Aa ca (merkhetlaw19_ClampSame_ag l0 s l0.length) Ap cp p t is _ (Kd.C_below HAC.out HBq.out) HCA.out (Kd.C_below HPC.out HBV.out) HCP.out HZ.out).mono ?_
          rintro e w5 ⟨v12, rfl, hO, hb5⟩
          obtain ⟨At, ct, rfl⟩ := Kd.R_slice hO
          have hrd := Kd.R_reads' hO
          have HTC := Aside0.mk hrd.2.2
          have HCT := Aside0.mk hrd.2.1
          have HB5 := Aside0.mk (below_step HBW.out hb5)
          have HBA := Aside0.mk (below_step HBq.out hb5)
          have HBS := Aside0.mk (below_step HBV.out hb5)
          clear hrd hO hb5
          go_wp2_with (fail)
          refine (merkhetlaw19_fixed.calls k true _ HY.out).mono ?_
          rintro e w6 ⟨rfl, hb⟩
          have HB6 := Aside0.mk (below_step HB5.out hb)
          have HBA6 := Aside0.mk (below_step HBA.out hb)
          have HBS6 := Aside0.mk (below_step HBS.out hb)
          have HT6 := Aside0.mk (Kd.C_below HTC.out hb)
          clear hb
          go_wp2_with (fail)
          refine (merkhetref18_May.calls k Aa ca (merkhetlaw19_ClampSame_ag l0 s l0.length) m2 _ (Kd.C_below HAC.out HBA6.out) HCA.out HM2.out).mono ?_
          rintro e w7 ⟨rfl, hb⟩
          have HB7 := Aside0.mk (below_step HB6.out hb)
          have HBS7 := Aside0.mk (below_step HBS6.out hb)
          have HT7 := Aside0.mk (Kd.C_below HT6.out hb)
          clear hb
          cases m2 with
          | false =>
            obtain rfl : true = r := by simpa using H3.out
            go_wp2_with (fail)
            go_ret
            exact ⟨by first | rfl | simp, HB7.out⟩
          | true =>
            have h3 := H3.out
            rw [if_neg (show ¬ true = false by decide)] at h3
            obtain ⟨his, h4⟩ := merkhetlaw19_ClampSame_if h3
            subst his
            obtain ⟨b, hb, h5⟩ := Option.bind_eq_some_iff.mp h4
            obtain ⟨rfl, h6⟩ := merkhetlaw19_ClampSame_if h5
            obtain rfl := Option.some.inj h6
            have HSM := Aside0.mk hb
            clear h3 h4 h5 h6 hb H3
            go_wp2_with (fail)
            refine (merkhetref15_Same.calls k At ct t As cs s true _ HT7.out HCT.out (Kd.C_below HSC.out HBS7.out) HCS.out HSM.out).mono ?_
            rintro e w8 ⟨rfl, hb⟩
            have HB8 := Aside0.mk (below_step HB7.out hb.below)
            clear hb
            go_wp2_with (fail)
            go_ret
            exact ⟨by first | rfl | simp, HB8.out⟩

/-- THE ONE PURE STATEMENT of merkhetlaw19_ClampSame. -/
def merkhetlaw19_ClampSame.Pure : Prop := ∀ (l0 : List (S34)), l0.length ≤ maxLen → (∀ x0_ ∈ l0, ((Lit.int .u64 x0_.f0).wf = true ∧ (Lit.int .u64 x0_.f1).wf = true ∧ (Lit.int .u64 x0_.f2).wf = true ∧ (Lit.int .u8 x0_.f3).wf = true ∧ x0_.f4.size ≤ maxLen ∧ x0_.f5.size ≤ maxLen ∧ (Lit.int .i64 x0_.f6).wf = true ∧ (Lit.int .i64 x0_.f7).wf = true)) → ∃ k, merkhetlaw19_ClampSame.f k l0 = some true


end Go.Proofs.Ythlekphkibeflaa.E
