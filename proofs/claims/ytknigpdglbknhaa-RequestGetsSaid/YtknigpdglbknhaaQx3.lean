-- WRITTEN FOR THIS CLAIM by wip/tools/mp.py, a program of this project that drives the kit's print; the functions that the print does not take are this project's own texts.
import Derived.Test.YtknigpdglbknhaaQx0
import Derived.Test.YtknigpdglbknhaaQx1
import Derived.Test.YtknigpdglbknhaaQx2
namespace Go.Proofs.Ytknigpdglbknhaa.Q
open Go.RowKit Go.Proofs.YtknigpdglbknhaaW.PrintWords Go.Proofs.YtknigpdglbknhaaW.PrintLast Go.Proofs.YtknigpdglbknhaaW.PrintMore
attribute [local go_sem] max2_int min2_int max_two min_two max_three min_three max_four min_four   -- for this text's walks alone
set_option linter.unusedVariables false
set_option linter.unusedSimpArgs false

/-! ### merkhetlaw23_RequestGets: function 12 -/
def merkhetlaw23_RequestGets_fix (k : Nat) : Option Bool := (merkhetlaw23_fixed.f k).bind fun y => if y = true then some true else none
def merkhetlaw23_RequestGets_ok (k1 : Int) (b1 : List Int) (t1 k2 : Int) (b2 : List Int) (t2 : Int) : Bool := (merkhetref23_Same.f k1 b1 t1 k2 b2 t2).getD false
def merkhetlaw23_RequestGets.f (k : Nat) (l0 : List Int) : Option Bool :=
  if (l0.length : Int) > 5000 then merkhetlaw23_RequestGets_fix k
  else (request_Get.f k l0).bind fun r => (merkhetref23_Get.f k (strOfNums l0)).bind fun x =>
    if r.2.2.2 = x.2.2.2 ∧ merkhetref23_Same.f r.1 r.2.1 r.2.2.1 x.1 x.2.1 x.2.2.1 = some true then
      (if r.2.2.2 = 0 then (request_Put.f k r.1 r.2.1 r.2.2.1).bind fun c => if (c.2 = 0 ∧ strOfNums c.1 = strOfNums l0) ∧ r.2.1.length ≤ 100000 then merkhetlaw23_RequestGets_fix k else none else merkhetlaw23_RequestGets_fix k) else none
theorem merkhetlaw23_RequestGets_fix_mono (k : Nat) : LeO (merkhetlaw23_RequestGets_fix k) (merkhetlaw23_RequestGets_fix (k + 1)) := LeO.bind (merkhetlaw23_fixed.mono _) (fun _ => LeO.refl _)
theorem merkhetlaw23_RequestGets.mono : ∀ a0 k, LeO (merkhetlaw23_RequestGets.f k a0) (merkhetlaw23_RequestGets.f (k + 1) a0) := by
  intro a0 k
  exact LeO.ite (merkhetlaw23_RequestGets_fix_mono k) (LeO.bind (request_Get.mono _ _) (fun _ => LeO.bind (merkhetref23_Get.mono _ _) (fun _ => LeO.ite (LeO.ite (LeO.bind (request_Put.mono _ _ _ _) (fun _ => LeO.ite (merkhetlaw23_RequestGets_fix_mono k) (LeO.refl _))) (merkhetlaw23_RequestGets_fix_mono k)) (LeO.refl _))))
theorem merkhetlaw23_RequestGets_if {c : Prop} [Decidable c] {o : Option Bool} {r : Bool} (h : (if c then o else none) = some r) : c ∧ o = some r := by
  by_cases hc : c
  · exact ⟨hc, by simpa [hc] using h⟩
  · exact absurd h (by simp [hc])
theorem merkhetlaw23_RequestGets_fx {k : Nat} {r : Bool} (h : merkhetlaw23_RequestGets_fix k = some r) : r = true ∧ merkhetlaw23_fixed.f k = some true := by
  obtain ⟨y, hy, h2⟩ := Option.bind_eq_some_iff.mp h
  obtain ⟨rfl, h3⟩ := merkhetlaw23_RequestGets_if h2
  exact ⟨(Option.some.inj h3).symm, hy⟩
set_option maxHeartbeats 8000000 in
set_option maxRecDepth 100000 in
theorem merkhetlaw23_RequestGets.calls (k : Nat) (A0 : Option Addr) (c0 : Nat) (l0 : List Int) (r : Bool) (w : World) (hr0 : Kd.C (Kd.int .u8) w A0 l0.length l0) (hc0 : l0.length ≤ c0) (h : merkhetlaw23_RequestGets.f k l0 = some r) :
    Calls Try.prog 12 #[.slice A0 l0.length c0] w fun e w' => e = .returned (.bool r) ∧ Below w.heap.size w w' := by
  have hu_ := Try.underlying54
  have HR := Aside0.mk hr0
  have HC := Aside0.mk hc0
  clear hr0 hc0
  unfold merkhetlaw23_RequestGets.f at h
  by_cases c : (l0.length : Int) > 5000
  · rw [if_pos c] at h
    obtain ⟨rfl, hy⟩ := merkhetlaw23_RequestGets_fx h
    have HY := Aside0.mk hy
    clear h hy
    go_enter Try.func12, Try.ntmps12
    go_wp2_with (fail)
    refine (merkhetlaw23_fixed.calls k true _ HY.out).mono ?_
    rintro e w2 ⟨rfl, hb⟩
    have HB2 := Aside0.mk hb
    clear hb
    go_wp2_with (fail)
    go_ret
    exact ⟨rfl, HB2.out⟩
  rw [if_neg c] at h
  obtain ⟨⟨k1, b1, t1, e1⟩, hg, h1⟩ := Option.bind_eq_some_iff.mp h
  obtain ⟨⟨k2, b2, t2, e2⟩, hf, h2⟩ := Option.bind_eq_some_iff.mp h1
  obtain ⟨⟨he, hs⟩, h3⟩ := merkhetlaw23_RequestGets_if h2
  have he : e1 = e2 := he
  subst he
  have HG := Aside0.mk hg
  have HF := Aside0.mk hf
  have HS := Aside0.mk hs
  have H3 := Aside0.mk h3
  clear h h1 h2 h3 hg hf hs
  have hcv := Kd.C_string (P := Try.prog) (A := A0) (c := c0) Try.underlying22 Try.underlying5 Try.underlying9 HR.out
  go_enter Try.func12, Try.ntmps12
  go_wp2_with (fail)
  refine (request_Get.calls k A0 c0 l0 k1 b1 t1 e1 _ HR.out HC.out HG.out).mono ?_
  rintro e w2 ⟨v1, rfl, hO, hb⟩
  obtain ⟨A1, c1, rfl⟩ := Kd.R_slice hO
  have HO2 := Aside0.mk hO
  have HB2 := Aside0.mk hb
  have HBA := Aside0.mk (below_alloc hb (.cells #[.int .i64 k1, .slice A1 b1.length c1, .int .u64 t1] 54 (0, 0)))
  have HK2 := Aside0.mk (blk_new w2 (.cells #[.int .i64 k1, .slice A1 b1.length c1, .int .u64 t1] 54 (0, 0)))
  clear hO hb hcv
  go_wp2_with (fail)
  refine (merkhetref23_Get.calls k (strOfNums l0) k2 b2 t2 e1 _ HF.out).mono ?_
  rintro e w3 ⟨A2, c2, rfl, hc2, hC2, hb⟩
  have HB3 := Aside0.mk (below_step HBA.out hb)
  have HK3 := Aside0.mk (blk_below HK2.out hb)
  have HO3 := Aside0.mk (Kd.R_below (Kd.R_alloc HO2.out (.cells #[.int .i64 k1, .slice A1 b1.length c1, .int .u64 t1] 54 (0, 0))) hb)
  have HSZ3 := Aside0.mk (show w2.heap.size < w3.heap.size by have := hb.size; rw [World.size_alloc] at this; omega)
  have HC2 := Aside0.mk hC2
  have HCC2 := Aside0.mk hc2
  clear hb hc2 hC2 HBA HK2 HO2
  have HBA3 := Aside0.mk (below_alloc HB3.out (.cells #[.int .i64 k2, .slice A2 b2.length c2, .int .u64 t2] 54 (0, 0)))
  have HKA := Aside0.mk (blk_alloc HK3.out (.cells #[.int .i64 k2, .slice A2 b2.length c2, .int .u64 t2] 54 (0, 0)))
  have HKB := Aside0.mk (blk_new w3 (.cells #[.int .i64 k2, .slice A2 b2.length c2, .int .u64 t2] 54 (0, 0)))
  have HOA := Aside0.mk (Kd.R_alloc HO3.out (.cells #[.int .i64 k2, .slice A2 b2.length c2, .int .u64 t2] 54 (0, 0)))
  have HCA := Aside0.mk (Kd.C_alloc HC2.out (.cells #[.int .i64 k2, .slice A2 b2.length c2, .int .u64 t2] 54 (0, 0)))
  have ka0 : (w3.alloc (.cells #[.int .i64 k2, .slice A2 b2.length c2, .int .u64 t2] 54 (0, 0))).cell? ⟨w2.heap.size, 0, none⟩ = some (.int .i64 k1) := (blk_cell HKA.out 0).trans rfl
  have ka1 : (w3.alloc (.cells #[.int .i64 k2, .slice A2 b2.length c2, .int .u64 t2] 54 (0, 0))).cell? ⟨w2.heap.size, 1, none⟩ = some (.slice A1 b1.length c1) := (blk_cell HKA.out 1).trans rfl
  have ka2 : (w3.alloc (.cells #[.int .i64 k2, .slice A2 b2.length c2, .int .u64 t2] 54 (0, 0))).cell? ⟨w2.heap.size, 2, none⟩ = some (.int .u64 t1) := (blk_cell HKA.out 2).trans rfl
  have kb0 : (w3.alloc (.cells #[.int .i64 k2, .slice A2 b2.length c2, .int .u64 t2] 54 (0, 0))).cell? ⟨w3.heap.size, 0, none⟩ = some (.int .i64 k2) := (blk_cell HKB.out 0).trans rfl
  have kb1 : (w3.alloc (.cells #[.int .i64 k2, .slice A2 b2.length c2, .int .u64 t2] 54 (0, 0))).cell? ⟨w3.heap.size, 1, none⟩ = some (.slice A2 b2.length c2) := (blk_cell HKB.out 1).trans rfl
  have kb2 : (w3.alloc (.cells #[.int .i64 k2, .slice A2 b2.length c2, .int .u64 t2] 54 (0, 0))).cell? ⟨w3.heap.size, 2, none⟩ = some (.int .u64 t2) := (blk_cell HKB.out 2).trans rfl
  have hne_ : (e1 != e1) = false := bne_self_eq_false e1
  go_wp2_with (fail)
  refine (merkhetref23_Same.calls k1 A1 c1 b1 t1 k2 A2 c2 b2 t2 true _ (Kd.R_reads' HOA.out).2.2 (Kd.R_reads' HOA.out).2.1 HCA.out HCC2.out HS.out).mono ?_
  rintro e w5 ⟨rfl, hb⟩
  have HB5 := Aside0.mk (below_step HBA3.out hb)
  have HK5 := Aside0.mk (blk_below HKA.out hb)
  have HO5 := Aside0.mk (Kd.R_below HOA.out hb)
  have HSZ5 := Aside0.mk (show w2.heap.size < w5.heap.size by have h1_ := hb.size; rw [World.size_alloc] at h1_; have := HSZ3.out; omega)
  clear ka0 ka1 ka2 kb0 kb1 kb2 hb HBA3 HKA HKB HOA HCA
  by_cases c0 : e1 = 0
  case neg =>
    have h3 := H3.out
    rw [if_neg c0] at h3
    obtain ⟨rfl, hy⟩ := merkhetlaw23_RequestGets_fx h3
    have HY := Aside0.mk hy
    have c0b : (e1 != 0) = true := bne_iff_ne.mpr c0
    clear h3 hy H3
    go_wp2_with (fail)
    refine (merkhetlaw23_fixed.calls k true _ HY.out).mono ?_
    rintro e w6 ⟨rfl, hb⟩
    have HB6 := Aside0.mk (below_step HB5.out hb)
    clear hb
    go_wp2_with (fail)
    go_ret
    exact ⟨rfl, HB6.out⟩
  have h3 := H3.out
  rw [if_pos c0] at h3
  obtain ⟨⟨cb, ce⟩, hput, h4⟩ := Option.bind_eq_some_iff.mp h3
  obtain ⟨⟨⟨hce, hcs⟩, hcl⟩, h5⟩ := merkhetlaw23_RequestGets_if h4
  have hce : ce = 0 := hce
  have hcs : strOfNums cb = strOfNums l0 := hcs
  subst hce
  subst c0
  obtain ⟨rfl, hy⟩ := merkhetlaw23_RequestGets_fx h5
  have HY := Aside0.mk hy
  have HPUT := Aside0.mk hput
  have HCS := Aside0.mk hcs
  have HCL := Aside0.mk hcl
  clear h3 h4 h5 hput hy hcs hcl H3 HS HF HG
  have ka0 : w5.cell? ⟨w2.heap.size, 0, none⟩ = some (.int .i64 k1) := (blk_cell HK5.out 0).trans rfl
  have ka1 : w5.cell? ⟨w2.heap.size, 1, none⟩ = some (.slice A1 b1.length c1) := (blk_cell HK5.out 1).trans rfl
  have ka2 : w5.cell? ⟨w2.heap.size, 2, none⟩ = some (.int .u64 t1) := (blk_cell HK5.out 2).trans rfl
  go_wp2_with (fail)
  refine (request_Put.calls k k1 A1 c1 b1 t1 cb 0 _ (Kd.R_reads' HO5.out).2.2 (Kd.R_reads' HO5.out).2.1 HPUT.out).mono ?_
  rintro e w6 ⟨vc, rfl, hO, hb⟩
  obtain ⟨A6, c6, rfl⟩ := Kd.R_slice hO
  have HB6 := Aside0.mk (below_step HB5.out hb)
  have HK6 := Aside0.mk (blk_below HK5.out hb)
  have HO6 := Aside0.mk (Kd.R_mono (Kd.R_bound (Kd.R_below HO5.out hb)) (fun _ hk => hk.2.1) : Kd.R (Kd.int .u8) 5 w6 w.heap.size (fun k_ => w.heap.size ≤ k_) (.slice A1 b1.length c1) b1)
  have HOC := Aside0.mk (Kd.R_mono (Kd.R_bound hO) (fun _ hk => hk.2.1) : Kd.R (Kd.int .u8) 5 w6 w5.heap.size (fun k_ => w5.heap.size ≤ k_) (.slice A6 cb.length c6) cb)
  have HFORM := Aside0.mk (fun hp : 0 < b1.length => by
    obtain ⟨g, cap, e, hg1, hg2, _⟩ := Kd.R_form HO5.out hp
    exact (⟨g, by injection e, hg1, hg2⟩ : ∃ g, A1 = some ⟨g, 0, none⟩ ∧ w.heap.size ≤ g ∧ g < w5.heap.size))
  clear ka0 ka1 ka2 hO hb HB5 HK5 HO5 HO3 HB3 HK3
  have ka0 : w6.cell? ⟨w2.heap.size, 0, none⟩ = some (.int .i64 k1) := (blk_cell HK6.out 0).trans rfl
  have ka1 : w6.cell? ⟨w2.heap.size, 1, none⟩ = some (.slice A1 b1.length c1) := (blk_cell HK6.out 1).trans rfl
  have ka2 : w6.cell? ⟨w2.heap.size, 2, none⟩ = some (.int .u64 t1) := (blk_cell HK6.out 2).trans rfl
  go_wp2_with (fail)
  clear ka0 ka1 ka2
  go_loopg [47] b1.length (fun d v47 wr => ∃ (i : Nat) (row : List Int), i + d = b1.length ∧ v47 = .int .i64 i ∧ Aside0 (row.length = b1.length) ∧ Aside0 (Kd.R (Kd.int .u8) 5 wr w.heap.size (fun k_ => w.heap.size ≤ k_) (.slice A1 b1.length c1) row) ∧ Aside0 (Kd.R (Kd.int .u8) 5 wr w5.heap.size (fun k_ => w5.heap.size ≤ k_) (.slice A6 cb.length c6) cb) ∧ Aside0 (wr.heap[w2.heap.size]? = some (.cells #[.int .i64 k1, .slice A1 b1.length c1, .int .u64 t1] 54 (0, 0))) ∧ Aside0 (Below w.heap.size w wr))
  case atStart => exact ⟨0, b1, by omega, rfl, ⟨rfl⟩, HO6, HOC, HK6, HB6⟩
  case round =>
    clear HO6 HOC HK6 HB6
    obtain ⟨i, row, hi, rfl, HL, HO, HOC, HK, HB⟩ := hrel
    by_cases hlt : i < b1.length
    · have hltz : (i : Int) < (b1.length : Int) := by omega
      obtain ⟨g, rfl, hg1, hg2⟩ := HFORM.out (by omega)
      have hcl := HCL.out
      have hi9 : (i : Int) < 100000 := by omega
      clear hcl
      obtain ⟨hx, hfx⟩ := Kd.R_celln (0 : Int) HO.out (i : Int) (by omega) hltz
      simp only [Int.toNat_natCast] at hx hfx
      obtain ⟨x, hx'⟩ : ∃ x, x = rdOf (0 : Int) row (i : Int) := ⟨_, rfl⟩
      rw [← hx'] at hx
      have hP := (Kd.R_putg HO.out (i : Int) (IntKind.u8.wrap (x + 1))).1
      simp only [Int.toNat_natCast] at hP
      have HON := Aside0.mk hP
      have HOCN := Aside0.mk (Kd.R_far (p := ⟨g, i, none⟩) HOC.out (fun k_ hk => by show k_ ≠ g; omega) (.int .u8 (IntKind.u8.wrap (x + 1))))
      have HKN := Aside0.mk (blk_far HK.out (g := w2.heap.size) (p := ⟨g, i, none⟩) (by
        intro e_
        obtain ⟨cs_, hcs_⟩ := Kd.R_typed HO.out g (by simp [Value.ownBlock])
        have h_ := HK.out
        rw [show w2.heap.size = g from e_, hcs_] at h_
        injection h_ with h_
        injection h_ with _ h_ _
        exact absurd h_ (by decide)) (.int .u8 (IntKind.u8.wrap (x + 1))))
      have HBN := Aside0.mk (show Below w.heap.size w (wr.setCell ⟨g, i, none⟩ (.int .u8 (IntKind.u8.wrap (x + 1)))) from below_set HB.out hg1)
      have ka1 : wr.cell? ⟨w2.heap.size, 1, none⟩ = some (.slice (some ⟨g, 0, none⟩) b1.length c1) := (blk_cell HK.out 1).trans rfl
      clear hP hx'
      go_wp2_with (fail)
      go_roundg (b1.length - (i + 1))
      case measure => omega
      case rel => exact ⟨i + 1, row.set i (IntKind.u8.wrap (x + 1)), by omega, by go_num, ⟨by rw [List.length_set]; exact HL.out⟩, HON, HOCN, HKN, HBN⟩
    · obtain rfl : i = b1.length := by omega
      go_wp2_with (fail)
      refine (merkhetlaw23_fixed.calls k true _ HY.out).mono ?_
      rintro e w7 ⟨rfl, hb⟩
      have HB7 := Aside0.mk (below_step HB.out hb)
      have HC7 := Kd.C_below (Kd.R_reads' HOC.out).2.2 hb
      have hcv1 := Kd.C_string (P := Try.prog) (A := A6) (c := c6) Try.underlying22 Try.underlying5 Try.underlying9 HC7
      have hcv2 := Kd.C_string (P := Try.prog) (A := A0) (c := c0) Try.underlying22 Try.underlying5 Try.underlying9 (Kd.C_below HR.out HB7.out)
      rw [HCS.out] at hcv1
      clear hb HC7
      go_wp2_with (fail)
      go_ret
      exact ⟨rfl, HB7.out⟩

/-- THE ONE PURE STATEMENT of merkhetlaw23_RequestGets. -/
def merkhetlaw23_RequestGets.Pure : Prop := ∀ (l0 : List Int), l0.length ≤ maxLen → l0.length * 1 ≤ 140737488351232 → (∀ x0_ ∈ l0, (Lit.int .u8 x0_).wf = true) → ∃ k, merkhetlaw23_RequestGets.f k l0 = some true


/-! ### merkhetref02_Put: function 23 -/
def merkhetref02_Put.l0 : Nat → Int → Int → ByteArray → Int → Option (ByteArray)
  | 0, _, _, _, _ => none
  | k + 1, x0, x1, x5, x6 => (merkhetref02_Count.f x1).bind fun t123 => (if x6 < t123 then ((some (([(Int.tmod x0 256) % 256] : List Int) : List Int)).bind fun y124 => (if x5.size + (strOfNums y124).size ≤ 9223372036854775807 then (merkhetref02_Put.l0 k (IntKind.u64.wrap (Int.tdiv x0 256)) x1 (x5 ++ (strOfNums y124)) (wrap64 (x6 + 1))) else (none))) else (some x5))
def merkhetref02_Put.f (k : Nat) (a0 : Int) (a1 : Int) : Option (ByteArray) := merkhetref02_Put.l0 k a0 a1 (⟨#[]⟩ : ByteArray) 0
theorem merkhetref02_Put.mono_l : ∀ k, (∀ y0 y1 y2 y3, LeO (merkhetref02_Put.l0 k y0 y1 y2 y3) (merkhetref02_Put.l0 (k + 1) y0 y1 y2 y3))
  | 0 => fun _ _ _ _ r h => by simp [merkhetref02_Put.l0] at h
  | k + 1 => by
    have ih0 := merkhetref02_Put.mono_l k
    · intro y0 y1 y2 y3
      unfold merkhetref02_Put.l0
      repeat' first
      | (with_reducible exact ih0 _ _ _ _)
      | (with_reducible exact LeO.refl _)
      | (with_reducible exact LeO.none _)
      | (with_reducible refine LeO.ite ?_ ?_)
      | (with_reducible refine LeO.bind ?_ (fun _ => ?_))
      | exact ih0 _ _ _ _
      | exact LeO.none _
      | refine LeO.ite ?_ ?_
      | refine LeO.bind ?_ (fun _ => ?_)
theorem merkhetref02_Put.mono : ∀ a0 a1 k, LeO (merkhetref02_Put.f k a0 a1) (merkhetref02_Put.f (k + 1) a0 a1) := by
  intro a0 a1 k
  have ih0 := merkhetref02_Put.mono_l k
  unfold merkhetref02_Put.f
  repeat' first
      | (with_reducible exact ih0 _ _ _ _)
      | (with_reducible exact LeO.refl _)
      | (with_reducible exact LeO.none _)
      | (with_reducible refine LeO.ite ?_ ?_)
      | (with_reducible refine LeO.bind ?_ (fun _ => ?_))
      | exact ih0 _ _ _ _
      | exact LeO.none _
      | refine LeO.ite ?_ ?_
      | refine LeO.bind ?_ (fun _ => ?_)
set_option maxHeartbeats 8000000 in
set_option maxRecDepth 100000 in
theorem merkhetref02_Put.calls (k : Nat) (a0 : Int) (a1 : Int) (r : ByteArray) (w : World) (h : merkhetref02_Put.f k a0 a1 = some r) :
    Calls Try.prog 23 #[.int .u64 a0, .int .i64 a1] w fun e w' => e = .returned (.string r) ∧ Below w.heap.size w w' := by
  have HB := Aside0.mk (Below.refl w.heap.size w)
  have H : (merkhetref02_Put.l0 k a0 a1 (⟨#[]⟩ : ByteArray) 0) = some r := h
  clear h
  have H' := Aside0.mk H
  clear H
  go_enter Try.func23, Try.ntmps23
  go_wp2
  go_loopg [0, 5, 6] k (fun kq v0 v5 v6 w' => ∃ (x0_1 : Int) (x5_1 : ByteArray) (x6_1 : Int), v0 = .int .u64 x0_1 ∧ v5 = .string x5_1 ∧ v6 = .int .i64 x6_1 ∧ Aside0 (merkhetref02_Put.l0 kq x0_1 a1 x5_1 x6_1 = some r) ∧ Aside0 (kq ≤ k) ∧ Aside0 (Below w.heap.size w w'))
  case atStart => exact ⟨(a0), ((⟨#[]⟩ : ByteArray)), (0), (by first | rfl | (simp; done) | (simp [*]; done)), (by first | rfl | (simp; done) | (simp [*]; done)), (by first | rfl | (simp; done) | (simp [*]; done)), H', ⟨Nat.le_refl _⟩, ⟨by repeat (first | (with_reducible first | exact HB.out | apply below_alloc | apply pw_below_drewN | apply below_drew1) | exact HB.out)⟩⟩
  case round =>
    clear H'
    try clear c2
    try clear p2
    obtain ⟨x0_1, x5_1, x6_1, rfl, rfl, rfl, HA, HK1, HB⟩ := hrel
    cases gk with
    | zero => exact absurd HA.out (by simp [merkhetref02_Put.l0])
    | succ k1 =>
      have H := HA.out
      clear HA
      simp only [merkhetref02_Put.l0] at H
      replace H := Option.bind_eq_some_iff.mp H
      obtain ⟨t123, A30, H⟩ := H
      replace H : (if x6_1 < t123 then ((some (([(Int.tmod x0_1 256) % 256] : List Int) : List Int)).bind fun y124 => (if x5_1.size + (strOfNums y124).size ≤ 9223372036854775807 then (merkhetref02_Put.l0 k1 (IntKind.u64.wrap (Int.tdiv x0_1 256)) a1 (x5_1 ++ (strOfNums y124)) (wrap64 (x6_1 + 1))) else (none))) else (some x5_1)) = some r := H
      have A3 := Aside0.mk A30
      clear A30
      by_cases c4 : x6_1 < t123
      · rw [if_pos c4] at H
        have c4b0 : decide (x6_1 < t123) = true := decide_eq_true c4
        clear c4
        obtain ⟨y124, hy124⟩ : ∃ y_ : List Int, y_ = (([(Int.tmod x0_1 256) % 256] : List Int)) := ⟨_, rfl⟩
        replace H : (if x5_1.size + (strOfNums y124).size ≤ 9223372036854775807 then (merkhetref02_Put.l0 k1 (IntKind.u64.wrap (Int.tdiv x0_1 256)) a1 (x5_1 ++ (strOfNums y124)) (wrap64 (x6_1 + 1))) else (none)) = some r := by first | (rw [hy124]; with_reducible exact H) | (have H2_ := (Option.bind_some _ _).symm.trans H; rw [hy124]; with_reducible exact H2_) | (have H2_ := (Option.bind_some _ _).symm.trans H; with_reducible exact H2_) | with_reducible exact H | (rw [hy124]; exact H) | exact H
        have Ny124 := Aside0.mk hy124
        clear hy124
        by_cases c5 : x5_1.size + (strOfNums y124).size ≤ 9223372036854775807
        · rw [if_pos c5] at H
          have c5b0 := eq_true c5
          have c5b1 : decide (x5_1.size + (strOfNums y124).size ≤ 9223372036854775807) = true := decide_eq_true c5
          try have c5b2 : (9223372036854775807 < x5_1.size + (strOfNums y124).size) = False := eq_false (Nat.not_lt.2 c5)
          have H' := Aside0.mk H
          clear H
          go_wp2_with (first | ((with_reducible refine gate_callee (f := 41) rfl ?_); refine goesL_ (some 9) rfl rfl Try.func41 (by kernel_rfl) rfl #[.int .i64 a1] rfl (by (try simp only [List.map_toArray, List.map_cons, List.map_nil]); first | done | rfl | (simp only [List.length_drop, List.length_take]; rfl) | (rw [Go.Proofs.Ytknigpdglbknhaa.H.u64_id _ (by simp only [decide_eq_false_iff_not, decide_eq_true_eq, Nat.not_lt, Int.not_lt] at *; omega) (by simp only [decide_eq_false_iff_not, decide_eq_true_eq, Nat.not_lt, Int.not_lt] at *; omega)]; rfl)) ?_; (with_reducible refine (merkhetref02_Count.calls a1 t123 _ A3.out).mono ?_); rintro e w' ⟨rfl, ⟨nd, rfl⟩⟩; refine ⟨_, rfl, ?_⟩) | ((with_reducible refine gate_dst (N := 17) rfl ?_); refine Kd.R_lit (Kd.int .u8) _ 5 ?hg (N := 17) ?hd (xs := ([(Int.tmod x0_1 256) % 256] : List Int)) (inner := [.int .u8 ((Int.tmod x0_1 256) % 256)]) (ok := fun _ => True) (okp := fun _ => True) ?hr ?hp (fun _ hk => hk) trivial (Below.refl _ _) (Nat.le_refl _) (by simp) ?_; (case hd => rfl); (case hg => rfl); (case hr => first | (go_simp; done) | (go_simp; rfl)); (case hp => exact (Reps.one (show Kd.M (Kd.int .u8) _ _ _ ((Int.tmod x0_1 256) % 256) [.int .u8 ((Int.tmod x0_1 256) % 256)] from rfl) (Reps.none _ _))); intro v125 w6 ho7 hb hg_ hnew_; clear hg_ hnew_; (first | rw [← Ny124.out] at ho7 | (simp only [Int.reduceToNat] at ho7; rw [← Ny124.out] at ho7)); have n0_ := Aside0.mk (Kd.R_lower ho7 (below_size (by repeat (first | (with_reducible first | exact HB.out | apply below_alloc | apply pw_below_drewN | apply below_drew1) | exact HB.out)))); have n1_ := Aside0.mk (below_step (by repeat (first | (with_reducible first | exact HB.out | apply below_alloc | apply pw_below_drewN | apply below_drew1) | exact HB.out)) hb); clear HB; have HO126 := n0_; have HB := n1_; clear n0_ n1_; clear hb ho7; have hcv8 := own_string (P := Try.prog) Try.underlying22 Try.underlying5 Try.underlying9 (Kd.own_of_R HO126.out)))
          go_roundg k1
          case measure => have := HK1.out; omega
          case rel => exact ⟨(IntKind.u64.wrap (Int.tdiv x0_1 256)), (x5_1 ++ (strOfNums y124)), (wrap64 (x6_1 + 1)), (by first | rfl | (simp; done) | (simp [*]; done)), (by first | rfl | (simp; done) | (simp [*]; done)), (by first | rfl | (simp; done) | (simp [*]; done)), H', ⟨by have := HK1.out; omega⟩, ⟨by repeat (first | (with_reducible first | exact HB.out | apply below_alloc | apply pw_below_drewN | apply below_drew1) | exact HB.out)⟩⟩
        · rw [if_neg c5] at H
          exact absurd H (by simp)
      · rw [if_neg c4] at H
        have c4b0 : decide (x6_1 < t123) = false := decide_eq_false c4
        clear c4
        obtain rfl := Option.some.inj H
        go_wp2_with (first | ((with_reducible refine gate_callee (f := 41) rfl ?_); refine goesL_ (some 9) rfl rfl Try.func41 (by kernel_rfl) rfl #[.int .i64 a1] rfl (by (try simp only [List.map_toArray, List.map_cons, List.map_nil]); first | done | rfl | (simp only [List.length_drop, List.length_take]; rfl) | (rw [Go.Proofs.Ytknigpdglbknhaa.H.u64_id _ (by simp only [decide_eq_false_iff_not, decide_eq_true_eq, Nat.not_lt, Int.not_lt] at *; omega) (by simp only [decide_eq_false_iff_not, decide_eq_true_eq, Nat.not_lt, Int.not_lt] at *; omega)]; rfl)) ?_; (with_reducible refine (merkhetref02_Count.calls a1 t123 _ A3.out).mono ?_); rintro e w' ⟨rfl, ⟨nd, rfl⟩⟩; refine ⟨_, rfl, ?_⟩))
        go_ret
        exact ⟨by first | rfl | (simp [errW_none, errW_some] <;> rfl) | (simp [*, errW_none, errW_some] <;> rfl), by repeat (first | (with_reducible first | exact HB.out | apply below_alloc | apply pw_below_drewN | apply below_drew1) | exact HB.out)⟩

/-! ### merkhetref23_May: function 33 -/
def merkhetref23_May.j0 : Nat → Bool → Int → List Int → Int → Option (Bool)
  | 0, _, _, _, _ => none
  | k + 1, x10, x128000, x128001, x128002 => if x10 = true then (some false) else (if x128000 = 1 then (if (x128001.length : Int) < 4097 then (some (x128002 == 0)) else (some false)) else (if (x128001.length : Int) = 0 then (if x128000 = 4 then (some true) else (some (x128002 == 0))) else (some false)))
def merkhetref23_May.f (k : Nat) (a0_0 : Int) (l0_1 : List Int) (a0_2 : Int) : Option (Bool) := if a0_0 < 1 then (merkhetref23_May.j0 k true a0_0 l0_1 a0_2) else (merkhetref23_May.j0 k (decide (a0_0 > 5)) a0_0 l0_1 a0_2)
theorem merkhetref23_May.mono_l : ∀ k, (∀ y0 y1 y2 y3, LeO (merkhetref23_May.j0 k y0 y1 y2 y3) (merkhetref23_May.j0 (k + 1) y0 y1 y2 y3))
  | 0 => fun _ _ _ _ r h => by simp [merkhetref23_May.j0] at h
  | k + 1 => by
    have ih0 := merkhetref23_May.mono_l k
    · intro y0 y1 y2 y3
      unfold merkhetref23_May.j0
      repeat' first
      | (with_reducible exact ih0 _ _ _ _)
      | (with_reducible exact LeO.refl _)
      | (with_reducible exact LeO.none _)
      | (with_reducible refine LeO.ite ?_ ?_)
      | (with_reducible refine LeO.bind ?_ (fun _ => ?_))
      | exact ih0 _ _ _ _
      | exact LeO.none _
      | refine LeO.ite ?_ ?_
      | refine LeO.bind ?_ (fun _ => ?_)
theorem merkhetref23_May.mono : ∀ a0 a1 a2 k, LeO (merkhetref23_May.f k a0 a1 a2) (merkhetref23_May.f (k + 1) a0 a1 a2) := by
  intro a0 a1 a2 k
  have ih0 := merkhetref23_May.mono_l k
  unfold merkhetref23_May.f
  repeat' first
      | (with_reducible exact ih0 _ _ _ _)
      | (with_reducible exact LeO.refl _)
      | (with_reducible exact LeO.none _)
      | (with_reducible refine LeO.ite ?_ ?_)
      | (with_reducible refine LeO.bind ?_ (fun _ => ?_))
      | exact ih0 _ _ _ _
      | exact LeO.none _
      | refine LeO.ite ?_ ?_
      | refine LeO.bind ?_ (fun _ => ?_)
set_option maxHeartbeats 8000000 in
set_option maxRecDepth 100000 in
theorem merkhetref23_May.calls (k : Nat) (a0_0 : Int) (A0_1 : Option Addr) (c0_1 : Nat) (l0_1 : List Int) (a0_2 : Int) (r : Bool) (w : World) (hr0_1 : Kd.C (Kd.int .u8) w A0_1 l0_1.length l0_1) (hc0_1 : l0_1.length ≤ c0_1) (h : merkhetref23_May.f k a0_0 l0_1 a0_2 = some r) :
    Calls Try.prog 33 #[.agg #[.int .i64 a0_0, .slice A0_1 l0_1.length c0_1, .int .u64 a0_2]] w fun e w' => e = .returned (.bool r) ∧ Below w.heap.size w w' := by
  have hu54 := Try.underlying54
  have HR0_1 := Aside0.mk hr0_1
  have HC0_1 := Aside0.mk hc0_1
  clear hr0_1 hc0_1
  have HB := Aside0.mk (Below.refl w.heap.size w)
  have H : (if a0_0 < 1 then (merkhetref23_May.j0 k true a0_0 l0_1 a0_2) else (merkhetref23_May.j0 k (decide (a0_0 > 5)) a0_0 l0_1 a0_2)) = some r := h
  clear h
  have HC2 := Aside0.mk H
  clear H
  go_enter Try.func33, Try.ntmps33
  go_upto_region 1 with (first | ((with_reducible refine gate_dst (N := 1) rfl ?_); refine box_event ?hg (N := 1) ?hd (cs := #[.int .i64 a0_0, .slice A0_1 l0_1.length c0_1, .int .u64 a0_2]) (t := 54) ?hr ?_; (case hd => rfl); (case hg => rfl); (case hr => first | (go_simp; done) | (go_simp; rfl)); intro gb127 hg w3 hbox hb; have n0_ := Aside0.mk (below_step (by repeat (first | (with_reducible first | exact HB.out | apply below_alloc | apply pw_below_drewN | apply below_drew1) | exact HB.out)) hb); have n1_ := Aside0.mk (hbox); have n2_ := Aside0.mk ((by rw [hg]; exact (below_size (by repeat (first | (with_reducible first | exact HB.out | apply below_alloc | apply pw_below_drewN | apply below_drew1) | exact HB.out))) : w.heap.size ≤ gb127)); have n3_ := Aside0.mk ((by rw [hg]; exact (below_size (by repeat (first | (with_reducible first | exact HB.out | apply below_alloc | apply pw_below_drewN | apply below_drew1) | exact HB.out))) : w.heap.size ≤ gb127)); clear HB; have HB := n0_; have BK127 := n1_; have GW127 := n2_; have GE127 := n3_; clear n0_ n1_ n2_ n3_; clear hb hbox hg))
  (try simp only [Act.put, List.setIfInBounds_toArray, List.set_cons_zero, List.set_cons_succ])
  go_cut [10] (fun v10 wc => ∃ (kq : Nat) (x10_1 : Bool), v10 = .bool x10_1 ∧ Aside0 (merkhetref23_May.j0 kq x10_1 a0_0 l0_1 a0_2 = some r) ∧ Aside0 (kq ≤ k) ∧ Aside0 (wc.heap[gb127]? = some (.cells #[.int .i64 a0_0, (.slice A0_1 l0_1.length c0_1), .int .u64 a0_2] 54 (0, 0))) ∧ Aside0 (Below w.heap.size w wc))
  case first =>
    have H := HC2.out
    clear HC2
    by_cases c4 : a0_0 < 1
    · rw [if_pos c4] at H
      have c4b0 : decide (a0_0 < 1) = true := decide_eq_true c4
      clear c4
      (first | rw [c4b0] | (simp only [i64_w, i32_w]; rw [c4b0]) | skip)
      have H' := Aside0.mk H
      clear H
      have hcz5_0 : w3.cell? ⟨gb127, 0, none⟩ = some (.int .i64 a0_0) := (blk_cell BK127.out 0).trans rfl
      have hcz5_1 : w3.cell? ⟨gb127, 1, none⟩ = some (.slice A0_1 l0_1.length c0_1) := (blk_cell BK127.out 1).trans rfl
      have hcz5_2 : w3.cell? ⟨gb127, 2, none⟩ = some (.int .u64 a0_2) := (blk_cell BK127.out 2).trans rfl
      have hfz5_0 := blk_frozen BK127.out 0
      have hfz5_1 := blk_frozen BK127.out 1
      have hfz5_2 := blk_frozen BK127.out 2
      go_wp2
      go_meet
      case rel => exact ⟨_, (true), (by first | rfl | (simp; done) | (simp [*]; done)), H', ⟨by first | omega | exact Nat.le_refl _⟩, ⟨by (with_reducible repeat (first | refine blk_drewN ?_ _ | refine blk_drew ?_ | refine blk_alloc ?_ _)); exact BK127.out⟩, ⟨by repeat (first | (with_reducible first | exact HB.out | apply below_alloc | apply pw_below_drewN | apply below_drew1 | refine below_set ?_ GE127.out) | exact HB.out)⟩⟩
    · rw [if_neg c4] at H
      have c4b0 : decide (a0_0 < 1) = false := decide_eq_false c4
      clear c4
      (first | rw [c4b0] | (simp only [i64_w, i32_w]; rw [c4b0]) | skip)
      have H' := Aside0.mk H
      clear H
      have hcz6_0 : w3.cell? ⟨gb127, 0, none⟩ = some (.int .i64 a0_0) := (blk_cell BK127.out 0).trans rfl
      have hcz6_1 : w3.cell? ⟨gb127, 1, none⟩ = some (.slice A0_1 l0_1.length c0_1) := (blk_cell BK127.out 1).trans rfl
      have hcz6_2 : w3.cell? ⟨gb127, 2, none⟩ = some (.int .u64 a0_2) := (blk_cell BK127.out 2).trans rfl
      have hfz6_0 := blk_frozen BK127.out 0
      have hfz6_1 := blk_frozen BK127.out 1
      have hfz6_2 := blk_frozen BK127.out 2
      go_wp2
      go_meet
      case rel => exact ⟨_, (decide (a0_0 > 5)), (by first | rfl | (simp; done) | (simp [*]; done)), H', ⟨by first | omega | exact Nat.le_refl _⟩, ⟨by (with_reducible repeat (first | refine blk_drewN ?_ _ | refine blk_drew ?_ | refine blk_alloc ?_ _)); exact BK127.out⟩, ⟨by repeat (first | (with_reducible first | exact HB.out | apply below_alloc | apply pw_below_drewN | apply below_drew1 | refine below_set ?_ GE127.out) | exact HB.out)⟩⟩
  case rest =>
    clear HC2
    try clear p2
    try clear c3
    try clear c4
    try clear c4b0
    try clear hcz5_0
    try clear hcz5_1
    try clear hcz5_2
    try clear hcz6_0
    try clear hcz6_1
    try clear hcz6_2
    try clear hfz5_0
    try clear hfz5_1
    try clear hfz5_2
    try clear hfz6_0
    try clear hfz6_1
    try clear hfz6_2
    obtain ⟨kq, x10_1, rfl, HA, HJ1, BK127, HB⟩ := hcut
    cases kq with
    | zero => exact absurd HA.out (by simp [merkhetref23_May.j0])
    | succ kj1 =>
      have H := HA.out
      clear HA
      simp only [merkhetref23_May.j0] at H
      by_cases c7 : x10_1 = true
      · subst c7
        have H1 : (some false) = some r := by rw [if_pos rfl] at H; exact H
        clear H
        have H := H1
        clear H1
        obtain rfl := Option.some.inj H
        go_wp2
        go_ret
        exact ⟨by first | rfl | (simp [errW_none, errW_some] <;> rfl) | (simp [*, errW_none, errW_some] <;> rfl), by repeat (first | (with_reducible first | exact HB.out | apply below_alloc | apply pw_below_drewN | apply below_drew1 | refine below_set ?_ GE127.out) | exact HB.out)⟩
      · replace c7 := Bool.eq_false_iff.mpr c7
        subst c7
        have H1 : (if a0_0 = 1 then (if (l0_1.length : Int) < 4097 then (some (a0_2 == 0)) else (some false)) else (if (l0_1.length : Int) = 0 then (if a0_0 = 4 then (some true) else (some (a0_2 == 0))) else (some false))) = some r := by rw [if_neg (show ¬ (false = true) by decide)] at H; exact H
        clear H
        have H := H1
        clear H1
        by_cases c8 : a0_0 = 1
        · rw [if_pos c8] at H
          have c8b0 : (a0_0 == 1) = true := beq_iff_eq.mpr c8
          have c8b1 : (a0_0 != 1) = false := bne_eq_false_iff_eq.mpr c8
          clear c8
          by_cases c9 : (l0_1.length : Int) < 4097
          · rw [if_pos c9] at H
            have c9b0 : decide ((l0_1.length : Int) < 4097) = true := decide_eq_true c9
            have c9b1 : decide (l0_1.length < 4097) = true := decide_eq_true (by omega)
            clear c9
            obtain rfl := Option.some.inj H
            have hcz10_0 : wc.cell? ⟨gb127, 0, none⟩ = some (.int .i64 a0_0) := (blk_cell BK127.out 0).trans rfl
            have hcz10_1 : wc.cell? ⟨gb127, 1, none⟩ = some (.slice A0_1 l0_1.length c0_1) := (blk_cell BK127.out 1).trans rfl
            have hcz10_2 : wc.cell? ⟨gb127, 2, none⟩ = some (.int .u64 a0_2) := (blk_cell BK127.out 2).trans rfl
            have hfz10_0 := blk_frozen BK127.out 0
            have hfz10_1 := blk_frozen BK127.out 1
            have hfz10_2 := blk_frozen BK127.out 2
            go_wp2
            go_ret
            exact ⟨by first | rfl | (simp [errW_none, errW_some] <;> rfl) | (simp [*, errW_none, errW_some] <;> rfl), by repeat (first | (with_reducible first | exact HB.out | apply below_alloc | apply pw_below_drewN | apply below_drew1 | refine below_set ?_ GE127.out) | exact HB.out)⟩
          · rw [if_neg c9] at H
            have c9b0 : decide ((l0_1.length : Int) < 4097) = false := decide_eq_false c9
            have c9b1 : decide (l0_1.length < 4097) = false := decide_eq_false (by omega)
            clear c9
            obtain rfl := Option.some.inj H
            have hcz11_0 : wc.cell? ⟨gb127, 0, none⟩ = some (.int .i64 a0_0) := (blk_cell BK127.out 0).trans rfl
            have hcz11_1 : wc.cell? ⟨gb127, 1, none⟩ = some (.slice A0_1 l0_1.length c0_1) := (blk_cell BK127.out 1).trans rfl
            have hcz11_2 : wc.cell? ⟨gb127, 2, none⟩ = some (.int .u64 a0_2) := (blk_cell BK127.out 2).trans rfl
            have hfz11_0 := blk_frozen BK127.out 0
            have hfz11_1 := blk_frozen BK127.out 1
            have hfz11_2 := blk_frozen BK127.out 2
            go_wp2
            go_ret
            exact ⟨by first | rfl | (simp [errW_none, errW_some] <;> rfl) | (simp [*, errW_none, errW_some] <;> rfl), by repeat (first | (with_reducible first | exact HB.out | apply below_alloc | apply pw_below_drewN | apply below_drew1 | refine below_set ?_ GE127.out) | exact HB.out)⟩
        · rw [if_neg c8] at H
          have c8b0 : (a0_0 == 1) = false := beq_eq_false_iff_ne.mpr c8
          have c8b1 : (a0_0 != 1) = true := bne_iff_ne.mpr c8
          by_cases c12 : (l0_1.length : Int) = 0
          · rw [if_pos c12] at H
            have c12b0 : ((l0_1.length : Int) == 0) = true := beq_iff_eq.mpr c12
            have c12b1 : ((l0_1.length : Int) != 0) = false := bne_eq_false_iff_eq.mpr c12
            clear c12
            by_cases c13 : a0_0 = 4
            · rw [if_pos c13] at H
              have c13b0 : (a0_0 == 4) = true := beq_iff_eq.mpr c13
              have c13b1 : (a0_0 != 4) = false := bne_eq_false_iff_eq.mpr c13
              clear c13
              obtain rfl := Option.some.inj H
              have hcz14_0 : wc.cell? ⟨gb127, 0, none⟩ = some (.int .i64 a0_0) := (blk_cell BK127.out 0).trans rfl
              have hcz14_1 : wc.cell? ⟨gb127, 1, none⟩ = some (.slice A0_1 l0_1.length c0_1) := (blk_cell BK127.out 1).trans rfl
              have hcz14_2 : wc.cell? ⟨gb127, 2, none⟩ = some (.int .u64 a0_2) := (blk_cell BK127.out 2).trans rfl
              have hfz14_0 := blk_frozen BK127.out 0
              have hfz14_1 := blk_frozen BK127.out 1
              have hfz14_2 := blk_frozen BK127.out 2
              go_wp2
              go_ret
              exact ⟨by first | rfl | (simp [errW_none, errW_some] <;> rfl) | (simp [*, errW_none, errW_some] <;> rfl), by repeat (first | (with_reducible first | exact HB.out | apply below_alloc | apply pw_below_drewN | apply below_drew1 | refine below_set ?_ GE127.out) | exact HB.out)⟩
            · rw [if_neg c13] at H
              have c13b0 : (a0_0 == 4) = false := beq_eq_false_iff_ne.mpr c13
              have c13b1 : (a0_0 != 4) = true := bne_iff_ne.mpr c13
              obtain rfl := Option.some.inj H
              have hcz15_0 : wc.cell? ⟨gb127, 0, none⟩ = some (.int .i64 a0_0) := (blk_cell BK127.out 0).trans rfl
              have hcz15_1 : wc.cell? ⟨gb127, 1, none⟩ = some (.slice A0_1 l0_1.length c0_1) := (blk_cell BK127.out 1).trans rfl
              have hcz15_2 : wc.cell? ⟨gb127, 2, none⟩ = some (.int .u64 a0_2) := (blk_cell BK127.out 2).trans rfl
              have hfz15_0 := blk_frozen BK127.out 0
              have hfz15_1 := blk_frozen BK127.out 1
              have hfz15_2 := blk_frozen BK127.out 2
              go_wp2
              go_ret
              exact ⟨by first | rfl | (simp [errW_none, errW_some] <;> rfl) | (simp [*, errW_none, errW_some] <;> rfl), by repeat (first | (with_reducible first | exact HB.out | apply below_alloc | apply pw_below_drewN | apply below_drew1 | refine below_set ?_ GE127.out) | exact HB.out)⟩
          · rw [if_neg c12] at H
            have c12b0 : ((l0_1.length : Int) == 0) = false := beq_eq_false_iff_ne.mpr c12
            have c12b1 : ((l0_1.length : Int) != 0) = true := bne_iff_ne.mpr c12
            have c12b2 : ¬ (l0_1 = []) := fun h_ => c12 (by rw [h_]; rfl)
            obtain rfl := Option.some.inj H
            have hcz16_0 : wc.cell? ⟨gb127, 0, none⟩ = some (.int .i64 a0_0) := (blk_cell BK127.out 0).trans rfl
            have hcz16_1 : wc.cell? ⟨gb127, 1, none⟩ = some (.slice A0_1 l0_1.length c0_1) := (blk_cell BK127.out 1).trans rfl
            have hcz16_2 : wc.cell? ⟨gb127, 2, none⟩ = some (.int .u64 a0_2) := (blk_cell BK127.out 2).trans rfl
            have hfz16_0 := blk_frozen BK127.out 0
            have hfz16_1 := blk_frozen BK127.out 1
            have hfz16_2 := blk_frozen BK127.out 2
            go_wp2
            go_ret
            exact ⟨by first | rfl | (simp [errW_none, errW_some] <;> rfl) | (simp [*, errW_none, errW_some] <;> rfl), by repeat (first | (with_reducible first | exact HB.out | apply below_alloc | apply pw_below_drewN | apply below_drew1 | refine below_set ?_ GE127.out) | exact HB.out)⟩

/-! ### merkhetref23_Put: function 31 -/
def merkhetref23_Put.f (k : Nat) (a0_0 : Int) (l0_1 : List Int) (a0_2 : Int) : Option (ByteArray × Int) := (merkhetref23_May.f k a0_0 l0_1 a0_2).bind fun t129 => (if t129 = true then ((merkhetref02_Put.f k (IntKind.u64.wrap (a0_0)) 1).bind fun t130 => (if t130.size + (strOfNums l0_1).size ≤ 9223372036854775807 then (if a0_0 = 4 then ((merkhetref02_Put.f k a0_2 8).bind fun t131 => (if (t130 ++ (strOfNums l0_1)).size + t131.size ≤ 9223372036854775807 then (some ((t130 ++ (strOfNums l0_1)) ++ t131, 0)) else (none))) else (some (t130 ++ (strOfNums l0_1), 0))) else (none))) else (some ((⟨#[]⟩ : ByteArray), 1)))
theorem merkhetref23_Put.mono : ∀ a0 a1 a2 k, LeO (merkhetref23_Put.f k a0 a1 a2) (merkhetref23_Put.f (k + 1) a0 a1 a2) := by
  intro a0 a1 a2 k
  unfold merkhetref23_Put.f
  repeat' first
      | (with_reducible exact merkhetref02_Put.mono _ _ _)
      | (with_reducible exact merkhetref23_May.mono _ _ _ _)
      | (with_reducible exact LeO.refl _)
      | (with_reducible exact LeO.none _)
      | (with_reducible refine LeO.ite ?_ ?_)
      | (with_reducible refine LeO.bind ?_ (fun _ => ?_))
      | exact merkhetref02_Put.mono _ _ _
      | exact merkhetref23_May.mono _ _ _ _
      | exact LeO.none _
      | refine LeO.ite ?_ ?_
      | refine LeO.bind ?_ (fun _ => ?_)
def merkhetref23_Put.T3 : Bool × List (List Nat × List Nat) := (true, [([], []), ([0], [0]), ([1], [1]), ([2], [2]), ([], []), ([4], [4]), ([5], [5]), ([3, 6], [3, 6]), ([7, 3, 0, 1, 2, 3, 4, 5, 6, 7], [7])])
def merkhetref23_Put.B3 : List Nat := [0, 1, 3, 7, 0, 16, 48, 127, 255]
theorem merkhetref23_Put.tab3 : rtab .any (opsOf Try.f31 3) = merkhetref23_Put.T3 := by kernel_rfl
theorem merkhetref23_Put.bits3 : waitsOk merkhetref23_Put.T3.2 merkhetref23_Put.B3 = true := by kernel_rfl
set_option maxHeartbeats 8000000 in
set_option maxRecDepth 100000 in
theorem merkhetref23_Put.calls (k : Nat) (a0_0 : Int) (A0_1 : Option Addr) (c0_1 : Nat) (l0_1 : List Int) (a0_2 : Int) (r1 : ByteArray) (r2 : Int) (w : World) (hr0_1 : Kd.C (Kd.int .u8) w A0_1 l0_1.length l0_1) (hc0_1 : l0_1.length ≤ c0_1) (h : merkhetref23_Put.f k a0_0 l0_1 a0_2 = some (r1, r2)) :
    Calls Try.prog 31 #[.agg #[.int .i64 a0_0, .slice A0_1 l0_1.length c0_1, .int .u64 a0_2]] w fun e w' => e = .returned (.tuple #[.string r1, .int .i64 r2]) ∧ Below w.heap.size w w' := by
  have hu54 := Try.underlying54
  have HR0_1 := Aside0.mk hr0_1
  have HC0_1 := Aside0.mk hc0_1
  clear hr0_1 hc0_1
  have HB := Aside0.mk (Below.refl w.heap.size w)
  have H : ((merkhetref23_May.f k a0_0 l0_1 a0_2).bind fun t129 => (if t129 = true then ((merkhetref02_Put.f k (IntKind.u64.wrap (a0_0)) 1).bind fun t130 => (if t130.size + (strOfNums l0_1).size ≤ 9223372036854775807 then (if a0_0 = 4 then ((merkhetref02_Put.f k a0_2 8).bind fun t131 => (if (t130 ++ (strOfNums l0_1)).size + t131.size ≤ 9223372036854775807 then (some ((t130 ++ (strOfNums l0_1)) ++ t131, 0)) else (none))) else (some (t130 ++ (strOfNums l0_1), 0))) else (none))) else (some ((⟨#[]⟩ : ByteArray), 1)))) = some (r1, r2) := h
  clear h
  replace H := Option.bind_eq_some_iff.mp H
  obtain ⟨t129, A20, H⟩ := H
  replace H : (if t129 = true then ((merkhetref02_Put.f k (IntKind.u64.wrap (a0_0)) 1).bind fun t130 => (if t130.size + (strOfNums l0_1).size ≤ 9223372036854775807 then (if a0_0 = 4 then ((merkhetref02_Put.f k a0_2 8).bind fun t131 => (if (t130 ++ (strOfNums l0_1)).size + t131.size ≤ 9223372036854775807 then (some ((t130 ++ (strOfNums l0_1)) ++ t131, 0)) else (none))) else (some (t130 ++ (strOfNums l0_1), 0))) else (none))) else (some ((⟨#[]⟩ : ByteArray), 1))) = some (r1, r2) := H
  have A2 := Aside0.mk A20
  clear A20
  by_cases c3 : t129 = true
  · subst c3
    have H1 : ((merkhetref02_Put.f k (IntKind.u64.wrap (a0_0)) 1).bind fun t130 => (if t130.size + (strOfNums l0_1).size ≤ 9223372036854775807 then (if a0_0 = 4 then ((merkhetref02_Put.f k a0_2 8).bind fun t131 => (if (t130 ++ (strOfNums l0_1)).size + t131.size ≤ 9223372036854775807 then (some ((t130 ++ (strOfNums l0_1)) ++ t131, 0)) else (none))) else (some (t130 ++ (strOfNums l0_1), 0))) else (none))) = some (r1, r2) := by rw [if_pos rfl] at H; exact H
    clear H
    have H := H1
    clear H1
    replace H := Option.bind_eq_some_iff.mp H
    obtain ⟨t130, A40, H⟩ := H
    replace H : (if t130.size + (strOfNums l0_1).size ≤ 9223372036854775807 then (if a0_0 = 4 then ((merkhetref02_Put.f k a0_2 8).bind fun t131 => (if (t130 ++ (strOfNums l0_1)).size + t131.size ≤ 9223372036854775807 then (some ((t130 ++ (strOfNums l0_1)) ++ t131, 0)) else (none))) else (some (t130 ++ (strOfNums l0_1), 0))) else (none)) = some (r1, r2) := H
    have A4 := Aside0.mk A40
    clear A40
    by_cases c5 : t130.size + (strOfNums l0_1).size ≤ 9223372036854775807
    · rw [if_pos c5] at H
      have c5b0 := eq_true c5
      have c5b1 : decide (t130.size + (strOfNums l0_1).size ≤ 9223372036854775807) = true := decide_eq_true c5
      try have c5b2 : (9223372036854775807 < t130.size + (strOfNums l0_1).size) = False := eq_false (Nat.not_lt.2 c5)
      by_cases c6 : a0_0 = 4
      · rw [if_pos c6] at H
        have c6b0 : (a0_0 == 4) = true := beq_iff_eq.mpr c6
        have c6b1 : (a0_0 != 4) = false := bne_eq_false_iff_eq.mpr c6
        clear c6
        replace H := Option.bind_eq_some_iff.mp H
        obtain ⟨t131, A70, H⟩ := H
        replace H : (if (t130 ++ (strOfNums l0_1)).size + t131.size ≤ 9223372036854775807 then (some ((t130 ++ (strOfNums l0_1)) ++ t131, 0)) else (none)) = some (r1, r2) := H
        have A7 := Aside0.mk A70
        clear A70
        by_cases c8 : (t130 ++ (strOfNums l0_1)).size + t131.size ≤ 9223372036854775807
        · rw [if_pos c8] at H
          have c8b0 := eq_true c8
          have c8b1 : decide ((t130 ++ (strOfNums l0_1)).size + t131.size ≤ 9223372036854775807) = true := decide_eq_true c8
          try have c8b2 : (9223372036854775807 < (t130 ++ (strOfNums l0_1)).size + t131.size) = False := eq_false (Nat.not_lt.2 c8)
          have c8b8 : (9223372036854775807 < t130.size + (strOfNums l0_1).size + t131.size) = False := by have h_ := c8b2; simp only [ByteArray.size_append] at h_; exact h_
          simp only [Option.some.injEq, Prod.mk.injEq] at H
          obtain ⟨rfl, rfl⟩ := H
          go_enter Try.func31, Try.ntmps31
          try go_wp2_with (first | ((with_reducible refine gate_dst (N := 1) rfl ?_); refine box_event ?hg (N := 1) ?hd (cs := #[.int .i64 a0_0, .slice A0_1 l0_1.length c0_1, .int .u64 a0_2]) (t := 54) ?hr ?_; (case hd => rfl); (case hg => rfl); (case hr => first | (go_simp; done) | (go_simp; rfl)); intro gb128 hg w9 hbox hb; have n0_ := Aside0.mk (below_step (by repeat (first | (with_reducible first | exact HB.out | apply below_alloc | apply pw_below_drewN | apply below_drew1) | exact HB.out)) hb); have n1_ := Aside0.mk (hbox); have n2_ := Aside0.mk ((by rw [hg]; exact (below_size (by repeat (first | (with_reducible first | exact HB.out | apply below_alloc | apply pw_below_drewN | apply below_drew1) | exact HB.out))) : w.heap.size ≤ gb128)); have n3_ := Aside0.mk ((by rw [hg]; exact (below_size (by repeat (first | (with_reducible first | exact HB.out | apply below_alloc | apply pw_below_drewN | apply below_drew1) | exact HB.out))) : w.heap.size ≤ gb128)); clear HB; have HB := n0_; have BK128 := n1_; have GW128 := n2_; have GE128 := n3_; clear n0_ n1_ n2_ n3_; clear hb hbox hg; have hcz10_0 : w9.cell? ⟨gb128, 0, none⟩ = some (.int .i64 a0_0) := (blk_cell BK128.out 0).trans rfl; have hcz10_1 : w9.cell? ⟨gb128, 1, none⟩ = some (.slice A0_1 l0_1.length c0_1) := (blk_cell BK128.out 1).trans rfl; have hcz10_2 : w9.cell? ⟨gb128, 2, none⟩ = some (.int .u64 a0_2) := (blk_cell BK128.out 2).trans rfl; have hfz10_0 := blk_frozen BK128.out 0; have hfz10_1 := blk_frozen BK128.out 1; have hfz10_2 := blk_frozen BK128.out 2) | ((with_reducible refine gate_callee (f := 33) rfl ?_); refine goesL_ (some 6) rfl rfl Try.func33 (by kernel_rfl) rfl #[.agg #[.int .i64 a0_0, .slice A0_1 l0_1.length c0_1, .int .u64 a0_2]] rfl (by (try simp only [List.map_toArray, List.map_cons, List.map_nil]); first | done | rfl | (simp only [List.length_drop, List.length_take]; rfl) | (rw [Go.Proofs.Ytknigpdglbknhaa.H.u64_id _ (by simp only [decide_eq_false_iff_not, decide_eq_true_eq, Nat.not_lt, Int.not_lt] at *; omega) (by simp only [decide_eq_false_iff_not, decide_eq_true_eq, Nat.not_lt, Int.not_lt] at *; omega)]; rfl)) ?_; (with_reducible refine (merkhetref23_May.calls k a0_0 _ _ l0_1 a0_2 true _ ?side1 ?side2 A2.out).mono ?_); (case side1 => repeat (first | exact (Kd.C_below HR0_1.out HB.out) | (with_reducible refine Kd.C_alloc ?_ _) | (with_reducible refine Kd.C_drewN ?_ _) | (with_reducible refine Kd.C_drew ?_))); (case side2 => exact HC0_1.out); rintro e w11 ⟨rfl, hb⟩; refine ⟨_, rfl, ?_⟩; have n0_ := Aside0.mk (blk_below (g := gb128) (o := .cells #[.int .i64 a0_0, .slice A0_1 l0_1.length c0_1, .int .u64 a0_2] 54 (0, 0)) (by (with_reducible repeat (first | refine blk_drewN ?_ _ | refine blk_drew ?_ | refine blk_alloc ?_ _)); exact BK128.out) hb); have n1_ := Aside0.mk (below_step (by repeat (first | (with_reducible first | exact HB.out | apply below_alloc | apply pw_below_drewN | apply below_drew1 | refine below_set ?_ GE128.out) | exact HB.out)) hb); clear BK128; clear HB; have BK128 := n0_; have HB := n1_; clear n0_ n1_; (try clear hb); (try clear hb2); (try clear hk); (try clear hi)))
          (try (rw [drewN_self w11]; generalize hq_ : World.drewN w11 _ = w11; have n0_ : Aside0 (w11.heap[gb128]? = some (.cells #[.int .i64 a0_0, .slice A0_1 l0_1.length c0_1, .int .u64 a0_2] 54 (0, 0))) := ⟨by rw [← hq_]; exact (by (with_reducible repeat (first | refine blk_drewN ?_ _ | refine blk_drew ?_ | refine blk_alloc ?_ _)); exact BK128.out)⟩; have n1_ : Aside0 (Below w.heap.size w w11) := ⟨by rw [← hq_]; exact (by repeat (first | (with_reducible first | exact HB.out | apply below_alloc | apply pw_below_drewN | apply below_drew1 | refine below_set ?_ GE128.out) | exact HB.out))⟩; clear BK128 HB hq_; have BK128 := n0_; have HB := n1_; clear n0_ n1_))
          have n0_ := Aside0.mk (blk_drew BK128.out)
          have n1_ := Aside0.mk (below_drew1 HB.out)
          clear BK128
          clear HB
          have BK128 := n0_
          have HB := n1_
          clear n0_ n1_
          have HQ913 := Aside0.mk (fun (w_ : World) (hb_ : Below w11.drew.heap.size w11.drew w_) => Kd.C_string (P := Try.prog) (A := A0_1) (c := c0_1) Try.underlying22 Try.underlying5 Try.underlying9 (by first | exact Kd.C_below (Kd.C_below HR0_1.out HB.out) hb_ | exact Kd.C_below HR0_1.out hb_))
          refine start_ (n := 9) (S := fun w' => w'.cell? ⟨gb128, 0, none⟩ = some (.int .i64 a0_0) ∧ w'.cell? ⟨gb128, 1, none⟩ = some (.slice A0_1 l0_1.length c0_1) ∧ w'.cell? ⟨gb128, 2, none⟩ = some (.int .u64 a0_2) ∧ Below w11.drew.heap.size w11.drew w') (ds := []) #[false, false, false, false, false, false, false, false, false] (by kernel_rfl) rfl rfl ⟨(blk_cell BK128.out 0).trans rfl, (blk_cell BK128.out 1).trans rfl, (blk_cell BK128.out 2).trans rfl, (Below.refl _ _)⟩ (fun hHeld => ?_); refine with_tabW merkhetref23_Put.tab3 merkhetref23_Put.bits3 (fun HT_ HW_ => ?_)
          generalize w11.drew = w12 at BK128 HB HQ913 hHeld ⊢
          refine pure_ (i := 0) (N := some 8) (v := ?_) (a' := ?_) #[true, false, false, false, false, false, false, false, false] rfl rfl (any_of HT_.out (by kernel_rfl)) (fun _ _ _ h => h) (Or.inl ⟨by rfl, ?_⟩) ?_ ?_
          rotate_left
          · intro w'
            go_simp
            with_reducible rfl
          rotate_left
          · simp only [Act.put, List.setIfInBounds_toArray, List.set_cons_zero, List.set_cons_succ, i64_w, i32_w]
            rfl
          refine pure_ (i := 4) (N := some 12) (v := ?_) (a' := ?_) #[true, false, false, false, true, false, false, false, false] rfl rfl (any_of HT_.out (by kernel_rfl)) (fun _ _ _ h => h) (Or.inl ⟨by rfl, ?_⟩) ?_ ?_
          rotate_left
          · intro w'
            go_simp
            with_reducible rfl
          rotate_left
          · simp only [Act.put, List.setIfInBounds_toArray, List.set_cons_zero, List.set_cons_succ, i64_w, i32_w]
            rfl
          refine take_ (i := 1) (N := some 9) (v := ?_) (a' := ?_) #[true, true, false, false, true, false, false, false, false] rfl rfl (take_ofW HT_.out HW_.out (by kernel_rfl)) (fun _ _ _ h => h) (Or.inl ⟨by rfl, ?_⟩) hHeld ?_ ?_
          rotate_left
          · rintro w' ⟨s0, s1, s2, s3⟩
            go_simp
            with_reducible rfl
          rotate_left
          · simp only [Act.put, List.setIfInBounds_toArray, List.set_cons_zero, List.set_cons_succ, i64_w, i32_w]
            rfl
          refine pure_ (i := 2) (N := some 10) (v := ?_) (a' := ?_) #[true, true, true, false, true, false, false, false, false] rfl rfl (any_of HT_.out (by kernel_rfl)) (fun _ _ _ h => h) (Or.inl ⟨by rfl, ?_⟩) ?_ ?_
          rotate_left
          · intro w'
            go_simp
            with_reducible rfl
          rotate_left
          · simp only [Act.put, List.setIfInBounds_toArray, List.set_cons_zero, List.set_cons_succ, i64_w, i32_w]
            rfl
          refine take_ (i := 5) (N := some 13) (v := ?_) (a' := ?_) #[true, true, true, false, true, true, false, false, false] rfl rfl (take_ofW HT_.out HW_.out (by kernel_rfl)) (fun _ _ _ h => h) (Or.inl ⟨by rfl, ?_⟩) hHeld ?_ ?_
          rotate_left
          · rintro w' ⟨s0, s1, s2, s3⟩
            go_simp
            with_reducible rfl
          rotate_left
          · simp only [Act.put, List.setIfInBounds_toArray, List.set_cons_zero, List.set_cons_succ, i64_w, i32_w]
            rfl
          refine take_ (i := 6) (N := some 14) (v := ?_) (a' := ?_) #[true, true, true, false, true, true, true, false, false] rfl rfl (take_ofW HT_.out HW_.out (by kernel_rfl)) (fun _ _ _ h => h) (Or.inl ⟨by rfl, ?_⟩) hHeld ?_ ?_
          rotate_left
          · rintro w' ⟨s0, s1, s2, s3⟩
            have hq_ := HQ913.out w' s3
            go_simp
            with_reducible rfl
          rotate_left
          · simp only [Act.put, List.setIfInBounds_toArray, List.set_cons_zero, List.set_cons_succ, i64_w, i32_w]
            rfl
          refine one_ (i := 3) (N := some 11) #[true, true, true, true, true, true, true, false, false] rfl rfl (one_of HT_.out (by kernel_rfl)) (by decide) (fun K hK => ?_)
          refine goes_ Try.func23 (by kernel_rfl) rfl #[.int .u64 (IntKind.u64.wrap (a0_0)), .int .i64 1] (by rfl) rfl rfl (by (try simp only [List.map_toArray, List.map_cons, List.map_nil]); first | done | rfl | (simp only [List.length_drop, List.length_take]; rfl) | (rw [Go.Proofs.Ytknigpdglbknhaa.H.u64_id _ (by simp only [decide_eq_false_iff_not, decide_eq_true_eq, Nat.not_lt, Int.not_lt] at *; omega) (by simp only [decide_eq_false_iff_not, decide_eq_true_eq, Nat.not_lt, Int.not_lt] at *; omega)]; rfl)) ?_
          with_reducible refine (merkhetref02_Put.calls k (IntKind.u64.wrap (a0_0)) 1 t130 _ A4.out).mono ?_
          rintro e w14 ⟨rfl, hb⟩
          have HS3_ := below_step (hHeld.2.2.2) hb
          refine ⟨_, rfl, ?_⟩
          have n0_ := Aside0.mk (blk_below (g := gb128) (o := .cells #[.int .i64 a0_0, .slice A0_1 l0_1.length c0_1, .int .u64 a0_2] 54 (0, 0)) (by (with_reducible repeat (first | refine blk_drewN ?_ _ | refine blk_drew ?_ | refine blk_alloc ?_ _)); exact BK128.out) hb)
          have n1_ := Aside0.mk (below_step (by repeat (first | (with_reducible first | exact HB.out | apply below_alloc | apply pw_below_drewN | apply below_drew1 | refine below_set ?_ GE128.out) | exact HB.out)) hb)
          clear BK128
          clear HB
          have BK128 := n0_
          have HB := n1_
          clear n0_ n1_
          (try clear hb)
          (try clear hb2)
          (try clear hk)
          (try clear hi)
          refine hK.out _ _ ⟨(blk_cell BK128.out 0).trans rfl, (blk_cell BK128.out 1).trans rfl, (blk_cell BK128.out 2).trans rfl, HS3_⟩ (fun hHeld => ?_)
          clear hK K
          refine norm_ (a' := ?_) ?_ ?_
          rotate_left
          · show Act.put _ (some 11) _ = _
            simp only [Act.put, List.setIfInBounds_toArray, List.set_cons_zero, List.set_cons_succ, i64_w, i32_w]
            rfl
          refine pure_ (i := 7) (N := some 15) (v := ?_) (a' := ?_) #[true, true, true, true, true, true, true, true, false] rfl rfl (any_of HT_.out (by kernel_rfl)) (fun _ _ _ h => h) (Or.inl ⟨by rfl, ?_⟩) ?_ ?_
          rotate_left
          · intro w'
            go_simp
            with_reducible rfl
          rotate_left
          · simp only [Act.put, List.setIfInBounds_toArray, List.set_cons_zero, List.set_cons_succ, i64_w, i32_w]
            rfl
          refine pure_ (i := 8) (N := some 4) (v := ?_) (a' := ?_) #[true, true, true, true, true, true, true, true, true] rfl rfl (any_of HT_.out (by kernel_rfl)) (fun _ _ _ h => h) (Or.inl ⟨by rfl, ?_⟩) ?_ ?_
          rotate_left
          · intro w'
            go_simp
            with_reducible rfl
          rotate_left
          · simp only [Act.put, List.setIfInBounds_toArray, List.set_cons_zero, List.set_cons_succ, i64_w, i32_w]
            rfl
          refine done_ (done_of HT_.out (by kernel_rfl)) ?_
          have hcz15_0 : w14.cell? ⟨gb128, 0, none⟩ = some (.int .i64 a0_0) := (blk_cell BK128.out 0).trans rfl
          have hcz15_1 : w14.cell? ⟨gb128, 1, none⟩ = some (.slice A0_1 l0_1.length c0_1) := (blk_cell BK128.out 1).trans rfl
          have hcz15_2 : w14.cell? ⟨gb128, 2, none⟩ = some (.int .u64 a0_2) := (blk_cell BK128.out 2).trans rfl
          have hfz15_0 := blk_frozen BK128.out 0
          have hfz15_1 := blk_frozen BK128.out 1
          have hfz15_2 := blk_frozen BK128.out 2
          try go_wp2_with (first | ((with_reducible refine gate_callee (f := 23) rfl ?_); refine goesL_ (some 22) rfl rfl Try.func23 (by kernel_rfl) rfl #[.int .u64 a0_2, .int .i64 8] rfl (by (try simp only [List.map_toArray, List.map_cons, List.map_nil]); first | done | rfl | (simp only [List.length_drop, List.length_take]; rfl) | (rw [Go.Proofs.Ytknigpdglbknhaa.H.u64_id _ (by simp only [decide_eq_false_iff_not, decide_eq_true_eq, Nat.not_lt, Int.not_lt] at *; omega) (by simp only [decide_eq_false_iff_not, decide_eq_true_eq, Nat.not_lt, Int.not_lt] at *; omega)]; rfl)) ?_; (with_reducible refine (merkhetref02_Put.calls k a0_2 8 t131 _ A7.out).mono ?_); rintro e w16 ⟨rfl, hb⟩; refine ⟨_, rfl, ?_⟩; have n0_ := Aside0.mk (blk_below (g := gb128) (o := .cells #[.int .i64 a0_0, .slice A0_1 l0_1.length c0_1, .int .u64 a0_2] 54 (0, 0)) (by (with_reducible repeat (first | refine blk_drewN ?_ _ | refine blk_drew ?_ | refine blk_alloc ?_ _)); exact BK128.out) hb); have n1_ := Aside0.mk (below_step (by repeat (first | (with_reducible first | exact HB.out | apply below_alloc | apply pw_below_drewN | apply below_drew1 | refine below_set ?_ GE128.out) | exact HB.out)) hb); clear BK128; clear HB; have BK128 := n0_; have HB := n1_; clear n0_ n1_; (try clear hb); (try clear hb2); (try clear hk); (try clear hi)))
          go_ret2
          exact ⟨by first | rfl | (simp [errW_none, errW_some] <;> rfl) | (simp [*, errW_none, errW_some] <;> rfl), by repeat (first | (with_reducible first | exact HB.out | apply below_alloc | apply pw_below_drewN | apply below_drew1 | refine below_set ?_ GE128.out) | exact HB.out)⟩
        · rw [if_neg c8] at H
          exact absurd H (by simp)
      · rw [if_neg c6] at H
        have c6b0 : (a0_0 == 4) = false := beq_eq_false_iff_ne.mpr c6
        have c6b1 : (a0_0 != 4) = true := bne_iff_ne.mpr c6
        simp only [Option.some.injEq, Prod.mk.injEq] at H
        obtain ⟨rfl, rfl⟩ := H
        go_enter Try.func31, Try.ntmps31
        try go_wp2_with (first | ((with_reducible refine gate_dst (N := 1) rfl ?_); refine box_event ?hg (N := 1) ?hd (cs := #[.int .i64 a0_0, .slice A0_1 l0_1.length c0_1, .int .u64 a0_2]) (t := 54) ?hr ?_; (case hd => rfl); (case hg => rfl); (case hr => first | (go_simp; done) | (go_simp; rfl)); intro gb128 hg w17 hbox hb; have n0_ := Aside0.mk (below_step (by repeat (first | (with_reducible first | exact HB.out | apply below_alloc | apply pw_below_drewN | apply below_drew1) | exact HB.out)) hb); have n1_ := Aside0.mk (hbox); have n2_ := Aside0.mk ((by rw [hg]; exact (below_size (by repeat (first | (with_reducible first | exact HB.out | apply below_alloc | apply pw_below_drewN | apply below_drew1) | exact HB.out))) : w.heap.size ≤ gb128)); have n3_ := Aside0.mk ((by rw [hg]; exact (below_size (by repeat (first | (with_reducible first | exact HB.out | apply below_alloc | apply pw_below_drewN | apply below_drew1) | exact HB.out))) : w.heap.size ≤ gb128)); clear HB; have HB := n0_; have BK128 := n1_; have GW128 := n2_; have GE128 := n3_; clear n0_ n1_ n2_ n3_; clear hb hbox hg; have hcz18_0 : w17.cell? ⟨gb128, 0, none⟩ = some (.int .i64 a0_0) := (blk_cell BK128.out 0).trans rfl; have hcz18_1 : w17.cell? ⟨gb128, 1, none⟩ = some (.slice A0_1 l0_1.length c0_1) := (blk_cell BK128.out 1).trans rfl; have hcz18_2 : w17.cell? ⟨gb128, 2, none⟩ = some (.int .u64 a0_2) := (blk_cell BK128.out 2).trans rfl; have hfz18_0 := blk_frozen BK128.out 0; have hfz18_1 := blk_frozen BK128.out 1; have hfz18_2 := blk_frozen BK128.out 2) | ((with_reducible refine gate_callee (f := 33) rfl ?_); refine goesL_ (some 6) rfl rfl Try.func33 (by kernel_rfl) rfl #[.agg #[.int .i64 a0_0, .slice A0_1 l0_1.length c0_1, .int .u64 a0_2]] rfl (by (try simp only [List.map_toArray, List.map_cons, List.map_nil]); first | done | rfl | (simp only [List.length_drop, List.length_take]; rfl) | (rw [Go.Proofs.Ytknigpdglbknhaa.H.u64_id _ (by simp only [decide_eq_false_iff_not, decide_eq_true_eq, Nat.not_lt, Int.not_lt] at *; omega) (by simp only [decide_eq_false_iff_not, decide_eq_true_eq, Nat.not_lt, Int.not_lt] at *; omega)]; rfl)) ?_; (with_reducible refine (merkhetref23_May.calls k a0_0 _ _ l0_1 a0_2 true _ ?side1 ?side2 A2.out).mono ?_); (case side1 => repeat (first | exact (Kd.C_below HR0_1.out HB.out) | (with_reducible refine Kd.C_alloc ?_ _) | (with_reducible refine Kd.C_drewN ?_ _) | (with_reducible refine Kd.C_drew ?_))); (case side2 => exact HC0_1.out); rintro e w19 ⟨rfl, hb⟩; refine ⟨_, rfl, ?_⟩; have n0_ := Aside0.mk (blk_below (g := gb128) (o := .cells #[.int .i64 a0_0, .slice A0_1 l0_1.length c0_1, .int .u64 a0_2] 54 (0, 0)) (by (with_reducible repeat (first | refine blk_drewN ?_ _ | refine blk_drew ?_ | refine blk_alloc ?_ _)); exact BK128.out) hb); have n1_ := Aside0.mk (below_step (by repeat (first | (with_reducible first | exact HB.out | apply below_alloc | apply pw_below_drewN | apply below_drew1 | refine below_set ?_ GE128.out) | exact HB.out)) hb); clear BK128; clear HB; have BK128 := n0_; have HB := n1_; clear n0_ n1_; (try clear hb); (try clear hb2); (try clear hk); (try clear hi)))
        (try (rw [drewN_self w19]; generalize hq_ : World.drewN w19 _ = w19; have n0_ : Aside0 (w19.heap[gb128]? = some (.cells #[.int .i64 a0_0, .slice A0_1 l0_1.length c0_1, .int .u64 a0_2] 54 (0, 0))) := ⟨by rw [← hq_]; exact (by (with_reducible repeat (first | refine blk_drewN ?_ _ | refine blk_drew ?_ | refine blk_alloc ?_ _)); exact BK128.out)⟩; have n1_ : Aside0 (Below w.heap.size w w19) := ⟨by rw [← hq_]; exact (by repeat (first | (with_reducible first | exact HB.out | apply below_alloc | apply pw_below_drewN | apply below_drew1 | refine below_set ?_ GE128.out) | exact HB.out))⟩; clear BK128 HB hq_; have BK128 := n0_; have HB := n1_; clear n0_ n1_))
        have n0_ := Aside0.mk (blk_drew BK128.out)
        have n1_ := Aside0.mk (below_drew1 HB.out)
        clear BK128
        clear HB
        have BK128 := n0_
        have HB := n1_
        clear n0_ n1_
        have HQ921 := Aside0.mk (fun (w_ : World) (hb_ : Below w19.drew.heap.size w19.drew w_) => Kd.C_string (P := Try.prog) (A := A0_1) (c := c0_1) Try.underlying22 Try.underlying5 Try.underlying9 (by first | exact Kd.C_below (Kd.C_below HR0_1.out HB.out) hb_ | exact Kd.C_below HR0_1.out hb_))
        refine start_ (n := 9) (S := fun w' => w'.cell? ⟨gb128, 0, none⟩ = some (.int .i64 a0_0) ∧ w'.cell? ⟨gb128, 1, none⟩ = some (.slice A0_1 l0_1.length c0_1) ∧ w'.cell? ⟨gb128, 2, none⟩ = some (.int .u64 a0_2) ∧ Below w19.drew.heap.size w19.drew w') (ds := []) #[false, false, false, false, false, false, false, false, false] (by kernel_rfl) rfl rfl ⟨(blk_cell BK128.out 0).trans rfl, (blk_cell BK128.out 1).trans rfl, (blk_cell BK128.out 2).trans rfl, (Below.refl _ _)⟩ (fun hHeld => ?_); refine with_tabW merkhetref23_Put.tab3 merkhetref23_Put.bits3 (fun HT_ HW_ => ?_)
        generalize w19.drew = w20 at BK128 HB HQ921 hHeld ⊢
        refine pure_ (i := 0) (N := some 8) (v := ?_) (a' := ?_) #[true, false, false, false, false, false, false, false, false] rfl rfl (any_of HT_.out (by kernel_rfl)) (fun _ _ _ h => h) (Or.inl ⟨by rfl, ?_⟩) ?_ ?_
        rotate_left
        · intro w'
          go_simp
          with_reducible rfl
        rotate_left
        · simp only [Act.put, List.setIfInBounds_toArray, List.set_cons_zero, List.set_cons_succ, i64_w, i32_w]
          rfl
        refine pure_ (i := 4) (N := some 12) (v := ?_) (a' := ?_) #[true, false, false, false, true, false, false, false, false] rfl rfl (any_of HT_.out (by kernel_rfl)) (fun _ _ _ h => h) (Or.inl ⟨by rfl, ?_⟩) ?_ ?_
        rotate_left
        · intro w'
          go_simp
          with_reducible rfl
        rotate_left
        · simp only [Act.put, List.setIfInBounds_toArray, List.set_cons_zero, List.set_cons_succ, i64_w, i32_w]
          rfl
        refine take_ (i := 1) (N := some 9) (v := ?_) (a' := ?_) #[true, true, false, false, true, false, false, false, false] rfl rfl (take_ofW HT_.out HW_.out (by kernel_rfl)) (fun _ _ _ h => h) (Or.inl ⟨by rfl, ?_⟩) hHeld ?_ ?_
        rotate_left
        · rintro w' ⟨s0, s1, s2, s3⟩
          go_simp
          with_reducible rfl
        rotate_left
        · simp only [Act.put, List.setIfInBounds_toArray, List.set_cons_zero, List.set_cons_succ, i64_w, i32_w]
          rfl
        refine pure_ (i := 2) (N := some 10) (v := ?_) (a' := ?_) #[true, true, true, false, true, false, false, false, false] rfl rfl (any_of HT_.out (by kernel_rfl)) (fun _ _ _ h => h) (Or.inl ⟨by rfl, ?_⟩) ?_ ?_
        rotate_left
        · intro w'
          go_simp
          with_reducible rfl
        rotate_left
        · simp only [Act.put, List.setIfInBounds_toArray, List.set_cons_zero, List.set_cons_succ, i64_w, i32_w]
          rfl
        refine take_ (i := 5) (N := some 13) (v := ?_) (a' := ?_) #[true, true, true, false, true, true, false, false, false] rfl rfl (take_ofW HT_.out HW_.out (by kernel_rfl)) (fun _ _ _ h => h) (Or.inl ⟨by rfl, ?_⟩) hHeld ?_ ?_
        rotate_left
        · rintro w' ⟨s0, s1, s2, s3⟩
          go_simp
          with_reducible rfl
        rotate_left
        · simp only [Act.put, List.setIfInBounds_toArray, List.set_cons_zero, List.set_cons_succ, i64_w, i32_w]
          rfl
        refine take_ (i := 6) (N := some 14) (v := ?_) (a' := ?_) #[true, true, true, false, true, true, true, false, false] rfl rfl (take_ofW HT_.out HW_.out (by kernel_rfl)) (fun _ _ _ h => h) (Or.inl ⟨by rfl, ?_⟩) hHeld ?_ ?_
        rotate_left
        · rintro w' ⟨s0, s1, s2, s3⟩
          have hq_ := HQ921.out w' s3
          go_simp
          with_reducible rfl
        rotate_left
        · simp only [Act.put, List.setIfInBounds_toArray, List.set_cons_zero, List.set_cons_succ, i64_w, i32_w]
          rfl
        refine one_ (i := 3) (N := some 11) #[true, true, true, true, true, true, true, false, false] rfl rfl (one_of HT_.out (by kernel_rfl)) (by decide) (fun K hK => ?_)
        refine goes_ Try.func23 (by kernel_rfl) rfl #[.int .u64 (IntKind.u64.wrap (a0_0)), .int .i64 1] (by rfl) rfl rfl (by (try simp only [List.map_toArray, List.map_cons, List.map_nil]); first | done | rfl | (simp only [List.length_drop, List.length_take]; rfl) | (rw [Go.Proofs.Ytknigpdglbknhaa.H.u64_id _ (by simp only [decide_eq_false_iff_not, decide_eq_true_eq, Nat.not_lt, Int.not_lt] at *; omega) (by simp only [decide_eq_false_iff_not, decide_eq_true_eq, Nat.not_lt, Int.not_lt] at *; omega)]; rfl)) ?_
        with_reducible refine (merkhetref02_Put.calls k (IntKind.u64.wrap (a0_0)) 1 t130 _ A4.out).mono ?_
        rintro e w22 ⟨rfl, hb⟩
        have HS3_ := below_step (hHeld.2.2.2) hb
        refine ⟨_, rfl, ?_⟩
        have n0_ := Aside0.mk (blk_below (g := gb128) (o := .cells #[.int .i64 a0_0, .slice A0_1 l0_1.length c0_1, .int .u64 a0_2] 54 (0, 0)) (by (with_reducible repeat (first | refine blk_drewN ?_ _ | refine blk_drew ?_ | refine blk_alloc ?_ _)); exact BK128.out) hb)
        have n1_ := Aside0.mk (below_step (by repeat (first | (with_reducible first | exact HB.out | apply below_alloc | apply pw_below_drewN | apply below_drew1 | refine below_set ?_ GE128.out) | exact HB.out)) hb)
        clear BK128
        clear HB
        have BK128 := n0_
        have HB := n1_
        clear n0_ n1_
        (try clear hb)
        (try clear hb2)
        (try clear hk)
        (try clear hi)
        refine hK.out _ _ ⟨(blk_cell BK128.out 0).trans rfl, (blk_cell BK128.out 1).trans rfl, (blk_cell BK128.out 2).trans rfl, HS3_⟩ (fun hHeld => ?_)
        clear hK K
        refine norm_ (a' := ?_) ?_ ?_
        rotate_left
        · show Act.put _ (some 11) _ = _
          simp only [Act.put, List.setIfInBounds_toArray, List.set_cons_zero, List.set_cons_succ, i64_w, i32_w]
          rfl
        refine pure_ (i := 7) (N := some 15) (v := ?_) (a' := ?_) #[true, true, true, true, true, true, true, true, false] rfl rfl (any_of HT_.out (by kernel_rfl)) (fun _ _ _ h => h) (Or.inl ⟨by rfl, ?_⟩) ?_ ?_
        rotate_left
        · intro w'
          go_simp
          with_reducible rfl
        rotate_left
        · simp only [Act.put, List.setIfInBounds_toArray, List.set_cons_zero, List.set_cons_succ, i64_w, i32_w]
          rfl
        refine pure_ (i := 8) (N := some 4) (v := ?_) (a' := ?_) #[true, true, true, true, true, true, true, true, true] rfl rfl (any_of HT_.out (by kernel_rfl)) (fun _ _ _ h => h) (Or.inl ⟨by rfl, ?_⟩) ?_ ?_
        rotate_left
        · intro w'
          go_simp
          with_reducible rfl
        rotate_left
        · simp only [Act.put, List.setIfInBounds_toArray, List.set_cons_zero, List.set_cons_succ, i64_w, i32_w]
          rfl
        refine done_ (done_of HT_.out (by kernel_rfl)) ?_
        have hcz23_0 : w22.cell? ⟨gb128, 0, none⟩ = some (.int .i64 a0_0) := (blk_cell BK128.out 0).trans rfl
        have hcz23_1 : w22.cell? ⟨gb128, 1, none⟩ = some (.slice A0_1 l0_1.length c0_1) := (blk_cell BK128.out 1).trans rfl
        have hcz23_2 : w22.cell? ⟨gb128, 2, none⟩ = some (.int .u64 a0_2) := (blk_cell BK128.out 2).trans rfl
        have hfz23_0 := blk_frozen BK128.out 0
        have hfz23_1 := blk_frozen BK128.out 1
        have hfz23_2 := blk_frozen BK128.out 2
        try go_wp2
        go_ret2
        exact ⟨by first | rfl | (simp [errW_none, errW_some] <;> rfl) | (simp [*, errW_none, errW_some] <;> rfl), by repeat (first | (with_reducible first | exact HB.out | apply below_alloc | apply pw_below_drewN | apply below_drew1 | refine below_set ?_ GE128.out) | exact HB.out)⟩
    · rw [if_neg c5] at H
      exact absurd H (by simp)
  · replace c3 := Bool.eq_false_iff.mpr c3
    subst c3
    have H1 : (some ((⟨#[]⟩ : ByteArray), 1)) = some (r1, r2) := by rw [if_neg (show ¬ (false = true) by decide)] at H; exact H
    clear H
    have H := H1
    clear H1
    simp only [Option.some.injEq, Prod.mk.injEq] at H
    obtain ⟨rfl, rfl⟩ := H
    go_enter Try.func31, Try.ntmps31
    go_wp2_with (first | ((with_reducible refine gate_dst (N := 1) rfl ?_); refine box_event ?hg (N := 1) ?hd (cs := #[.int .i64 a0_0, .slice A0_1 l0_1.length c0_1, .int .u64 a0_2]) (t := 54) ?hr ?_; (case hd => rfl); (case hg => rfl); (case hr => first | (go_simp; done) | (go_simp; rfl)); intro gb128 hg w24 hbox hb; have n0_ := Aside0.mk (below_step (by repeat (first | (with_reducible first | exact HB.out | apply below_alloc | apply pw_below_drewN | apply below_drew1) | exact HB.out)) hb); have n1_ := Aside0.mk (hbox); have n2_ := Aside0.mk ((by rw [hg]; exact (below_size (by repeat (first | (with_reducible first | exact HB.out | apply below_alloc | apply pw_below_drewN | apply below_drew1) | exact HB.out))) : w.heap.size ≤ gb128)); have n3_ := Aside0.mk ((by rw [hg]; exact (below_size (by repeat (first | (with_reducible first | exact HB.out | apply below_alloc | apply pw_below_drewN | apply below_drew1) | exact HB.out))) : w.heap.size ≤ gb128)); clear HB; have HB := n0_; have BK128 := n1_; have GW128 := n2_; have GE128 := n3_; clear n0_ n1_ n2_ n3_; clear hb hbox hg; have hcz25_0 : w24.cell? ⟨gb128, 0, none⟩ = some (.int .i64 a0_0) := (blk_cell BK128.out 0).trans rfl; have hcz25_1 : w24.cell? ⟨gb128, 1, none⟩ = some (.slice A0_1 l0_1.length c0_1) := (blk_cell BK128.out 1).trans rfl; have hcz25_2 : w24.cell? ⟨gb128, 2, none⟩ = some (.int .u64 a0_2) := (blk_cell BK128.out 2).trans rfl; have hfz25_0 := blk_frozen BK128.out 0; have hfz25_1 := blk_frozen BK128.out 1; have hfz25_2 := blk_frozen BK128.out 2) | ((with_reducible refine gate_callee (f := 33) rfl ?_); refine goesL_ (some 6) rfl rfl Try.func33 (by kernel_rfl) rfl #[.agg #[.int .i64 a0_0, .slice A0_1 l0_1.length c0_1, .int .u64 a0_2]] rfl (by (try simp only [List.map_toArray, List.map_cons, List.map_nil]); first | done | rfl | (simp only [List.length_drop, List.length_take]; rfl) | (rw [Go.Proofs.Ytknigpdglbknhaa.H.u64_id _ (by simp only [decide_eq_false_iff_not, decide_eq_true_eq, Nat.not_lt, Int.not_lt] at *; omega) (by simp only [decide_eq_false_iff_not, decide_eq_true_eq, Nat.not_lt, Int.not_lt] at *; omega)]; rfl)) ?_; (with_reducible refine (merkhetref23_May.calls k a0_0 _ _ l0_1 a0_2 false _ ?side1 ?side2 A2.out).mono ?_); (case side1 => repeat (first | exact (Kd.C_below HR0_1.out HB.out) | (with_reducible refine Kd.C_alloc ?_ _) | (with_reducible refine Kd.C_drewN ?_ _) | (with_reducible refine Kd.C_drew ?_))); (case side2 => exact HC0_1.out); rintro e w26 ⟨rfl, hb⟩; refine ⟨_, rfl, ?_⟩; have n0_ := Aside0.mk (blk_below (g := gb128) (o := .cells #[.int .i64 a0_0, .slice A0_1 l0_1.length c0_1, .int .u64 a0_2] 54 (0, 0)) (by (with_reducible repeat (first | refine blk_drewN ?_ _ | refine blk_drew ?_ | refine blk_alloc ?_ _)); exact BK128.out) hb); have n1_ := Aside0.mk (below_step (by repeat (first | (with_reducible first | exact HB.out | apply below_alloc | apply pw_below_drewN | apply below_drew1 | refine below_set ?_ GE128.out) | exact HB.out)) hb); clear BK128; clear HB; have BK128 := n0_; have HB := n1_; clear n0_ n1_; (try clear hb); (try clear hb2); (try clear hk); (try clear hi)))
    go_ret2
    exact ⟨by first | rfl | (simp [errW_none, errW_some] <;> rfl) | (simp [*, errW_none, errW_some] <;> rfl), by repeat (first | (with_reducible first | exact HB.out | apply below_alloc | apply pw_below_drewN | apply below_drew1 | refine below_set ?_ GE128.out) | exact HB.out)⟩

end Go.Proofs.Ytknigpdglbknhaa.Q
