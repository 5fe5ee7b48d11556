-- WRITTEN FOR THIS CLAIM by wip/tools/mp.py, a program of this project that drives the kit's print; the functions that the print does not take are this project's own texts.
import Derived.Test.YtdpodjgggicaoaaSOx0r
import Derived.Test.YtdpodjgggicaoaaSOx1r
import Derived.Test.YtdpodjgggicaoaaSOx2r
import Derived.Test.YtdpodjgggicaoaaSOx4r
namespace Go.Proofs.Ytdpodjgggicaoaa.SO
open Go.RowKit Go.Proofs.YtdpodjgggicaoaaW.PrintWords Go.Proofs.YtdpodjgggicaoaaW.PrintLast Go.Proofs.YtdpodjgggicaoaaW.PrintMore
attribute [local go_sem] max2_int min2_int max_two min_two max_three min_three max_four min_four   -- for this text's walks alone
set_option linter.unusedVariables false
set_option linter.unusedSimpArgs false
def wire_get.f (k : Nat) (l0 : List Int) : Option (Int × Int × Int × Int × ByteArray × ByteArray × Int × Int × Int) :=
  (pack_Get.f k l0 0 8).bind fun x0 => (pack_Get.f k l0 8 8).bind fun x1 => (pack_Get.f k l0 16 8).bind fun x2 => (pack_Get.f k l0 24 1).bind fun x3 => (pack_Get.f k l0 25 8).bind fun x4 => (pack_Get.f k l0 33 8).bind fun x5 =>
  (pack_GetText.f k l0 41).bind fun y0 => (pack_GetText.f k l0 58).bind fun y1 =>
  if y0.2 = true then (if y1.2 = true then (span_May.f k x0.1 x1.1 x2.1 (x3.1 % 256) y0.1 y1.1 (wrap64 x4.1) (wrap64 x5.1)).bind fun m => if m = true then some (x0.1, x1.1, x2.1, x3.1 % 256, y0.1, y1.1, wrap64 x4.1, wrap64 x5.1, 0) else some (0, 0, 0, 0, ⟨#[]⟩, ⟨#[]⟩, 0, 0, 4) else some (0, 0, 0, 0, ⟨#[]⟩, ⟨#[]⟩, 0, 0, 3)) else some (0, 0, 0, 0, ⟨#[]⟩, ⟨#[]⟩, 0, 0, 3)
theorem wire_get.mono : ∀ a0 k, LeO (wire_get.f k a0) (wire_get.f (k + 1) a0) := by
  intro a0 k
  unfold wire_get.f
  repeat' first
      | (with_reducible exact pack_Get.mono _ _ _ _)
      | (with_reducible exact pack_GetText.mono _ _ _)
      | (with_reducible exact span_May.mono _ _ _ _ _ _ _ _ _)
      | (with_reducible exact LeO.refl _)
      | (with_reducible refine LeO.ite ?_ ?_)
      | (with_reducible refine LeO.bind ?_ (fun _ => ?_))
structure wgSt (w0 w : World) (A0 : Option Addr) (c0 : Nat) (l0 : List Int) (at_ : Int) (R : Nat) : Prop where
  below : Below w0.heap.size w0 w
  far : w0.heap.size ≤ R
  res : w.heap[R]? = some (.cells #[.int .u64 0, .int .u64 0, .int .u64 0, .int .u8 0, .string ⟨#[]⟩, .string ⟨#[]⟩, .int .i64 0, .int .i64 0] 77 (0, 0))
  one : w.heap[R + 1]? = some (.cells #[.slice A0 l0.length c0] 25 (0, 0))
  two : w.heap[R + 2]? = some (.cells #[.int .i64 at_] 3 (0, 0))
theorem wgSt_step {w0 w w1 : World} {A0 : Option Addr} {c0 : Nat} {l0 : List Int} {at_ : Int} {R : Nat} (h : wgSt w0 w A0 c0 l0 at_ R) (hb : Below w.heap.size w w1) : wgSt w0 w1 A0 c0 l0 at_ R :=
  ⟨below_step h.below hb, h.far, blk_below h.res hb, blk_below h.one hb, blk_below h.two hb⟩
set_option maxHeartbeats 8000000 in
set_option maxRecDepth 100000 in
theorem wgSt_calls (K : Nat) (A0 : Option Addr) (c0 : Nat) (l0 : List Int) (R : Nat) (at_ s at2 : Int) (hat : wrap64 (at_ + s) = at2) (x : Int × Bool) (w0 w : World) (hr0 : Kd.C (Kd.int .u8) w0 A0 l0.length l0) (hc0 : l0.length ≤ c0) (hs : wgSt w0 w A0 c0 l0 at_ R) (h : pack_Get.f K l0 at_ s = some x) :
    Calls Try.prog 69 #[.int .i64 s, .pointer (some ⟨R + 1, 0, none⟩), .pointer (some ⟨R + 2, 0, none⟩)] w fun e w' => e = .returned (.int .u64 x.1) ∧ wgSt w0 w' A0 c0 l0 at2 R := by
  obtain ⟨x, ok⟩ := x
  have HAT := Aside0.mk hat
  clear hat
  have HR := Aside0.mk (Kd.C_below hr0 hs.below)
  have HC := Aside0.mk hc0
  have HS := Aside0.mk hs
  have HG := Aside0.mk h
  have h1 : w.cell? ⟨R + 1, 0, none⟩ = some (.slice A0 l0.length c0) := (blk_cell hs.one 0).trans rfl
  have h2 : w.cell? ⟨R + 2, 0, none⟩ = some (.int .i64 at_) := (blk_cell hs.two 0).trans rfl
  clear hr0 hc0 hs h
  go_enter Try.func69, Try.ntmps69
  go_wp2_with (go_at_call 43; refine (pack_Get.calls K A0 c0 l0 at_ s x ok _ HR.out HC.out HG.out).mono ?_; rintro e w1 ⟨rfl, hb⟩; have HS1 := Aside0.mk (wgSt_step HS.out hb); clear hb h2; have h2 : w1.cell? ⟨R + 2, 0, none⟩ = some (.int .i64 at_) := (blk_cell HS1.out.two 0).trans rfl; have h3 := blk_frozen HS1.out.two 0)
  go_ret
  rw [← HAT.out]
  exact ⟨rfl, below_set HS1.out.below (Nat.le_trans HS1.out.far (Nat.le_add_right R 2)), HS1.out.far, blk_far HS1.out.res (by simp) _, blk_far HS1.out.one (by simp) _, blk_put HS1.out.two 0 _ rfl⟩
theorem wgMade (A0 : Option Addr) (c0 : Nat) (l0 : List Int) (w0 w : World) (hb : Below w0.heap.size w0 w) :
    wgSt w0 (((w.alloc (.cells #[.int .u64 0, .int .u64 0, .int .u64 0, .int .u8 0, .string ⟨#[]⟩, .string ⟨#[]⟩, .int .i64 0, .int .i64 0] 77 (0, 0))).alloc (.cells #[.slice A0 l0.length c0] 25 (0, 0))).alloc (.cells #[.int .i64 0] 3 (0, 0))) A0 c0 l0 0 w.heap.size :=
  ⟨below_alloc (below_alloc (below_alloc hb _) _) _, hb.size, blk_alloc (blk_alloc (blk_new _ _) _) _, by have := blk_alloc (blk_new (w.alloc (.cells #[.int .u64 0, .int .u64 0, .int .u64 0, .int .u8 0, .string ⟨#[]⟩, .string ⟨#[]⟩, .int .i64 0, .int .i64 0] 77 (0, 0))) (.cells #[.slice A0 l0.length c0] 25 (0, 0))) (.cells #[.int .i64 0] 3 (0, 0)); simpa using this,
   by have := blk_new ((w.alloc (.cells #[.int .u64 0, .int .u64 0, .int .u64 0, .int .u8 0, .string ⟨#[]⟩, .string ⟨#[]⟩, .int .i64 0, .int .i64 0] 77 (0, 0))).alloc (.cells #[.slice A0 l0.length c0] 25 (0, 0))) (.cells #[.int .i64 0] 3 (0, 0)); simpa using this⟩
structure wg2St (w0 w : World) (R T : Nat) (c : Array Value) : Prop where
  below : Below w0.heap.size w0 w
  far : w0.heap.size ≤ R
  lt : R < T
  res : w.heap[R]? = some (.cells #[.int .u64 0, .int .u64 0, .int .u64 0, .int .u8 0, .string ⟨#[]⟩, .string ⟨#[]⟩, .int .i64 0, .int .i64 0] 77 (0, 0))
  var : w.heap[T]? = some (.cells c 77 (0, 0))
theorem wg2St_step {w0 w w1 : World} {R T : Nat} {c : Array Value} (h : wg2St w0 w R T c) (hb : Below w.heap.size w w1) : wg2St w0 w1 R T c :=
  ⟨below_step h.below hb, h.far, h.lt, blk_below h.res hb, blk_below h.var hb⟩
theorem wg2St_new {w0 w : World} {A0 : Option Addr} {c0 : Nat} {l0 : List Int} {at_ : Int} {R : Nat} (h : wgSt w0 w A0 c0 l0 at_ R) (c : Array Value) : wg2St w0 (w.alloc (.cells c 77 (0, 0))) R w.heap.size c :=
  ⟨below_alloc h.below _, h.far, blk_lt h.res, blk_alloc h.res _, blk_new _ _⟩
set_option maxHeartbeats 8000000 in
set_option maxRecDepth 100000 in
theorem wgNumbers_calls (A0 : Option Addr) (c0 : Nat) (l0 : List Int) (w : World) :
    Calls Try.prog 64 #[.slice A0 l0.length c0] w fun e w' => e = .returned (.func (.func 69) #[] #[.pointer (some ⟨w.heap.size, 0, none⟩), .pointer (some ⟨w.heap.size + 1, 0, none⟩)]) ∧ w' = (w.alloc (.cells #[.slice A0 l0.length c0] 25 (0, 0))).alloc (.cells #[.int .i64 0] 3 (0, 0)) := by
  have hmf : ∀ (fn : Fn) (first cap : Array Value) (w : World), (Instr.makeFunc fn first cap).run Try.prog w = .ok (.func fn first cap) w := fun _ _ _ _ => rfl
  go_enter Try.func64, Try.ntmps64
  go_wp2
  go_ret
  exact ⟨rfl, rfl⟩
set_option maxHeartbeats 8000000 in
set_option maxRecDepth 100000 in
theorem wire_get.calls (k : Nat) (A0 : Option Addr) (c0 : Nat) (l0 : List Int) (r1 : Int) (r2 : Int) (r3 : Int) (r4 : Int) (r5 : ByteArray) (r6 : ByteArray) (r7 : Int) (r8 : Int) (r9 : Int) (w : World) (hr0 : Kd.C (Kd.int .u8) w A0 l0.length l0) (hc0 : l0.length ≤ c0) (h : wire_get.f k l0 = some (r1, r2, r3, r4, r5, r6, r7, r8, r9)) :
    Calls Try.prog 49 #[.slice A0 l0.length c0] w fun e w' => e = .returned (.tuple #[.agg #[.int .u64 r1, .int .u64 r2, .int .u64 r3, .int .u8 r4, .string r5, .string r6, .int .i64 r7, .int .i64 r8], .int .i64 r9]) ∧ Below w.heap.size w w' := by
  have hu_ := Try.underlying77
  have HR := Aside0.mk hr0
  have HC := Aside0.mk hc0
  have HM := Aside0.mk (wgMade A0 c0 l0 w w (Below.refl _ _))
  clear hr0 hc0
  unfold wire_get.f at h
  obtain ⟨x0, A0_, h⟩ := Option.bind_eq_some_iff.mp h
  obtain ⟨x1, A1_, h⟩ := Option.bind_eq_some_iff.mp h
  obtain ⟨x2, A2_, h⟩ := Option.bind_eq_some_iff.mp h
  obtain ⟨x3, A3_, h⟩ := Option.bind_eq_some_iff.mp h
  obtain ⟨x4, A4_, h⟩ := Option.bind_eq_some_iff.mp h
  obtain ⟨x5, A5_, h⟩ := Option.bind_eq_some_iff.mp h
  obtain ⟨⟨y0, o0⟩, B0_, h⟩ := Option.bind_eq_some_iff.mp h
  obtain ⟨⟨y1, o1⟩, B1_, h⟩ := Option.bind_eq_some_iff.mp h
  have A0_ := Aside0.mk A0_
  have A1_ := Aside0.mk A1_
  have A2_ := Aside0.mk A2_
  have A3_ := Aside0.mk A3_
  have A4_ := Aside0.mk A4_
  have A5_ := Aside0.mk A5_
  have B0_ := Aside0.mk B0_
  have B1_ := Aside0.mk B1_
  have HH := Aside0.mk h
  clear h
  go_enter Try.func49, Try.ntmps49
  go_wp2_with (first
    | (go_at_call 64; refine (wgNumbers_calls A0 c0 l0 _).mono ?_; rintro e w1 ⟨rfl, rfl⟩))
  refine (wgSt_calls k A0 c0 l0 w.heap.size 0 8 8 (by unfold wrap64; omega) x0 w _ HR.out HC.out HM.out A0_.out).mono ?_
  rintro e w2 ⟨rfl, hs⟩
  have H0 := Aside0.mk hs
  clear hs
  go_wp2_with fail
  refine (wgSt_calls k A0 c0 l0 w.heap.size 8 8 16 (by unfold wrap64; omega) x1 w _ HR.out HC.out H0.out A1_.out).mono ?_
  rintro e w3 ⟨rfl, hs⟩
  have H1 := Aside0.mk hs
  clear hs
  go_wp2_with fail
  refine (wgSt_calls k A0 c0 l0 w.heap.size 16 8 24 (by unfold wrap64; omega) x2 w _ HR.out HC.out H1.out A2_.out).mono ?_
  rintro e w4 ⟨rfl, hs⟩
  have H2 := Aside0.mk hs
  clear hs
  go_wp2_with fail
  refine (wgSt_calls k A0 c0 l0 w.heap.size 24 1 25 (by unfold wrap64; omega) x3 w _ HR.out HC.out H2.out A3_.out).mono ?_
  rintro e w5 ⟨rfl, hs⟩
  have H3 := Aside0.mk hs
  clear hs
  go_wp2_with fail
  refine (wgSt_calls k A0 c0 l0 w.heap.size 25 8 33 (by unfold wrap64; omega) x4 w _ HR.out HC.out H3.out A4_.out).mono ?_
  rintro e w6 ⟨rfl, hs⟩
  have H4 := Aside0.mk hs
  clear hs
  go_wp2_with fail
  refine (wgSt_calls k A0 c0 l0 w.heap.size 33 8 41 (by unfold wrap64; omega) x5 w _ HR.out HC.out H4.out A5_.out).mono ?_
  rintro e w7 ⟨rfl, hs⟩
  have H5 := Aside0.mk hs
  clear hs
  go_wp2_with fail
  have HV := Aside0.mk (wg2St_new H5.out #[.int .u64 x0.1, .int .u64 x1.1, .int .u64 x2.1, .int .u8 (x3.1 % 256), .string ⟨#[]⟩, .string ⟨#[]⟩, .int .i64 (wrap64 x4.1), .int .i64 (wrap64 x5.1)])
  clear HM H0 H1 H2 H3 H4 A0_ A1_ A2_ A3_ A4_ A5_
  refine (pack_GetText.calls k A0 c0 l0 41 y0 o0 _ (Kd.C_below HR.out HV.out.below) HC.out B0_.out).mono ?_
  rintro e w8 ⟨rfl, hb⟩
  have HV2 := Aside0.mk (wg2St_step HV.out hb)
  clear hb HV
  go_wp2_with fail
  refine (pack_GetText.calls k A0 c0 l0 58 y1 o1 _ (Kd.C_below HR.out HV2.out.below) HC.out B1_.out).mono ?_
  rintro e w9 ⟨rfl, hb⟩
  have HV := Aside0.mk (wg2St_step HV2.out hb)
  clear hb HV2 B0_ B1_ HR HC
  have HT := Aside0.mk HV.out.lt
  cases o0 with
  | false =>
    have HE := Aside0.mk (Option.some.inj (show some ((0 : Int), (0 : Int), (0 : Int), (0 : Int), (⟨#[]⟩ : ByteArray), (⟨#[]⟩ : ByteArray), (0 : Int), (0 : Int), (3 : Int)) = some (r1, r2, r3, r4, r5, r6, r7, r8, r9) from HH.out))
    clear HH
    obtain ⟨rfl, rfl, rfl, rfl, rfl, rfl, rfl, rfl, rfl⟩ := by simpa only [Prod.mk.injEq] using HE.out
    clear HE
    have cR0 : w9.cell? ⟨w.heap.size, 0, none⟩ = some (.int .u64 0 : Value) := (blk_cell HV.out.res 0).trans rfl
    have fR0 := blk_frozen HV.out.res 0
    have cR1 : w9.cell? ⟨w.heap.size, 1, none⟩ = some (.int .u64 0 : Value) := (blk_cell HV.out.res 1).trans rfl
    have fR1 := blk_frozen HV.out.res 1
    have cR2 : w9.cell? ⟨w.heap.size, 2, none⟩ = some (.int .u64 0 : Value) := (blk_cell HV.out.res 2).trans rfl
    have fR2 := blk_frozen HV.out.res 2
    have cR3 : w9.cell? ⟨w.heap.size, 3, none⟩ = some (.int .u8 0 : Value) := (blk_cell HV.out.res 3).trans rfl
    have fR3 := blk_frozen HV.out.res 3
    have cR4 : w9.cell? ⟨w.heap.size, 4, none⟩ = some (.string ⟨#[]⟩ : Value) := (blk_cell HV.out.res 4).trans rfl
    have fR4 := blk_frozen HV.out.res 4
    have cR5 : w9.cell? ⟨w.heap.size, 5, none⟩ = some (.string ⟨#[]⟩ : Value) := (blk_cell HV.out.res 5).trans rfl
    have fR5 := blk_frozen HV.out.res 5
    have cR6 : w9.cell? ⟨w.heap.size, 6, none⟩ = some (.int .i64 0 : Value) := (blk_cell HV.out.res 6).trans rfl
    have fR6 := blk_frozen HV.out.res 6
    have cR7 : w9.cell? ⟨w.heap.size, 7, none⟩ = some (.int .i64 0 : Value) := (blk_cell HV.out.res 7).trans rfl
    have fR7 := blk_frozen HV.out.res 7
    go_wp2
    refine bodyPost_ret (results_ct rfl _ _ w.heap.size 77 _ (0, 0) _ rfl (blk_set (blk_set (blk_set (blk_set (blk_set (blk_set (blk_set (blk_set HV.out.res 0 _) 1 _) 2 _) 3 _) 4 _) 5 _) 6 _) 7 _) Try.underlying77 rfl (by kernel_rfl)) rfl ?_
    exact ⟨rfl, (below_set (below_set (below_set (below_set (below_set (below_set (below_set (below_set HV.out.below (Nat.le_refl _)) (Nat.le_refl _)) (Nat.le_refl _)) (Nat.le_refl _)) (Nat.le_refl _)) (Nat.le_refl _)) (Nat.le_refl _)) (Nat.le_refl _))⟩
  | true =>
    cases o1 with
    | false =>
      have HE := Aside0.mk (Option.some.inj (show some ((0 : Int), (0 : Int), (0 : Int), (0 : Int), (⟨#[]⟩ : ByteArray), (⟨#[]⟩ : ByteArray), (0 : Int), (0 : Int), (3 : Int)) = some (r1, r2, r3, r4, r5, r6, r7, r8, r9) from HH.out))
      clear HH
      obtain ⟨rfl, rfl, rfl, rfl, rfl, rfl, rfl, rfl, rfl⟩ := by simpa only [Prod.mk.injEq] using HE.out
      clear HE
      have cR0 : w9.cell? ⟨w.heap.size, 0, none⟩ = some (.int .u64 0 : Value) := (blk_cell HV.out.res 0).trans rfl
      have fR0 := blk_frozen HV.out.res 0
      have cR1 : w9.cell? ⟨w.heap.size, 1, none⟩ = some (.int .u64 0 : Value) := (blk_cell HV.out.res 1).trans rfl
      have fR1 := blk_frozen HV.out.res 1
      have cR2 : w9.cell? ⟨w.heap.size, 2, none⟩ = some (.int .u64 0 : Value) := (blk_cell HV.out.res 2).trans rfl
      have fR2 := blk_frozen HV.out.res 2
      have cR3 : w9.cell? ⟨w.heap.size, 3, none⟩ = some (.int .u8 0 : Value) := (blk_cell HV.out.res 3).trans rfl
      have fR3 := blk_frozen HV.out.res 3
      have cR4 : w9.cell? ⟨w.heap.size, 4, none⟩ = some (.string ⟨#[]⟩ : Value) := (blk_cell HV.out.res 4).trans rfl
      have fR4 := blk_frozen HV.out.res 4
      have cR5 : w9.cell? ⟨w.heap.size, 5, none⟩ = some (.string ⟨#[]⟩ : Value) := (blk_cell HV.out.res 5).trans rfl
      have fR5 := blk_frozen HV.out.res 5
      have cR6 : w9.cell? ⟨w.heap.size, 6, none⟩ = some (.int .i64 0 : Value) := (blk_cell HV.out.res 6).trans rfl
      have fR6 := blk_frozen HV.out.res 6
      have cR7 : w9.cell? ⟨w.heap.size, 7, none⟩ = some (.int .i64 0 : Value) := (blk_cell HV.out.res 7).trans rfl
      have fR7 := blk_frozen HV.out.res 7
      go_wp2
      refine bodyPost_ret (results_ct rfl _ _ w.heap.size 77 _ (0, 0) _ rfl (blk_set (blk_set (blk_set (blk_set (blk_set (blk_set (blk_set (blk_set HV.out.res 0 _) 1 _) 2 _) 3 _) 4 _) 5 _) 6 _) 7 _) Try.underlying77 rfl (by kernel_rfl)) rfl ?_
      exact ⟨rfl, (below_set (below_set (below_set (below_set (below_set (below_set (below_set (below_set HV.out.below (Nat.le_refl _)) (Nat.le_refl _)) (Nat.le_refl _)) (Nat.le_refl _)) (Nat.le_refl _)) (Nat.le_refl _)) (Nat.le_refl _)) (Nat.le_refl _))⟩
    | true =>
      have HH := Aside0.mk (show ((span_May.f k x0.1 x1.1 x2.1 (x3.1 % 256) y0 y1 (wrap64 x4.1) (wrap64 x5.1)).bind fun m => if m = true then some (x0.1, x1.1, x2.1, x3.1 % 256, y0, y1, wrap64 x4.1, wrap64 x5.1, (0 : Int)) else some ((0 : Int), (0 : Int), (0 : Int), (0 : Int), (⟨#[]⟩ : ByteArray), (⟨#[]⟩ : ByteArray), (0 : Int), (0 : Int), (4 : Int))) = some (r1, r2, r3, r4, r5, r6, r7, r8, r9) from HH.out)
      obtain ⟨m, hm, hr⟩ := Option.bind_eq_some_iff.mp HH.out
      have HM := Aside0.mk hm
      have HF := Aside0.mk hr
      clear hm hr HH
      have cT0 : w9.cell? ⟨w7.heap.size, 0, none⟩ = some (.int .u64 x0.1) := (blk_cell HV.out.var 0).trans rfl
      have fT0 := blk_frozen HV.out.var 0
      have cT1 : w9.cell? ⟨w7.heap.size, 1, none⟩ = some (.int .u64 x1.1) := (blk_cell HV.out.var 1).trans rfl
      have fT1 := blk_frozen HV.out.var 1
      have cT2 : w9.cell? ⟨w7.heap.size, 2, none⟩ = some (.int .u64 x2.1) := (blk_cell HV.out.var 2).trans rfl
      have fT2 := blk_frozen HV.out.var 2
      have cT3 : w9.cell? ⟨w7.heap.size, 3, none⟩ = some (.int .u8 (x3.1 % 256)) := (blk_cell HV.out.var 3).trans rfl
      have fT3 := blk_frozen HV.out.var 3
      have cT4 : w9.cell? ⟨w7.heap.size, 4, none⟩ = some (.string ⟨#[]⟩) := (blk_cell HV.out.var 4).trans rfl
      have fT4 := blk_frozen HV.out.var 4
      have cT5 : w9.cell? ⟨w7.heap.size, 5, none⟩ = some (.string ⟨#[]⟩) := (blk_cell HV.out.var 5).trans rfl
      have fT5 := blk_frozen HV.out.var 5
      have cT6 : w9.cell? ⟨w7.heap.size, 6, none⟩ = some (.int .i64 (wrap64 x4.1)) := (blk_cell HV.out.var 6).trans rfl
      have fT6 := blk_frozen HV.out.var 6
      have cT7 : w9.cell? ⟨w7.heap.size, 7, none⟩ = some (.int .i64 (wrap64 x5.1)) := (blk_cell HV.out.var 7).trans rfl
      have fT7 := blk_frozen HV.out.var 7
      go_wp2_with fail
      refine (span_May.calls k x0.1 x1.1 x2.1 (x3.1 % 256) y0 y1 (wrap64 x4.1) (wrap64 x5.1) m _ HM.out).mono ?_
      rintro e w10 ⟨rfl, hb⟩
      have HW := Aside0.mk (wg2St_step (c := #[.int .u64 x0.1, .int .u64 x1.1, .int .u64 x2.1, .int .u8 (x3.1 % 256), .string y0, .string y1, .int .i64 (wrap64 x4.1), .int .i64 (wrap64 x5.1)]) (show wg2St w _ w.heap.size w7.heap.size _ from ⟨below_set (below_set HV.out.below (Nat.le_of_lt HV.out.lt)) (Nat.le_of_lt HV.out.lt), HV.out.far, HV.out.lt, blk_far (blk_far HV.out.res (Nat.ne_of_lt HV.out.lt) _) (Nat.ne_of_lt HV.out.lt) _, blk_put (blk_put HV.out.var 4 _ rfl) 5 _ rfl⟩) hb)
      clear hb cT0 cT1 cT2 cT3 cT4 cT5 cT6 cT7 fT0 fT1 fT2 fT3 fT4 fT5 fT6 fT7 HM HV
      cases m with
      | false =>
        have HE := Aside0.mk (Option.some.inj (show some ((0 : Int), (0 : Int), (0 : Int), (0 : Int), (⟨#[]⟩ : ByteArray), (⟨#[]⟩ : ByteArray), (0 : Int), (0 : Int), (4 : Int)) = some (r1, r2, r3, r4, r5, r6, r7, r8, r9) from HF.out))
        clear HF
        obtain ⟨rfl, rfl, rfl, rfl, rfl, rfl, rfl, rfl, rfl⟩ := by simpa only [Prod.mk.injEq] using HE.out
        clear HE
        have cR0 : w10.cell? ⟨w.heap.size, 0, none⟩ = some (.int .u64 0 : Value) := (blk_cell HW.out.res 0).trans rfl
        have fR0 := blk_frozen HW.out.res 0
        have cR1 : w10.cell? ⟨w.heap.size, 1, none⟩ = some (.int .u64 0 : Value) := (blk_cell HW.out.res 1).trans rfl
        have fR1 := blk_frozen HW.out.res 1
        have cR2 : w10.cell? ⟨w.heap.size, 2, none⟩ = some (.int .u64 0 : Value) := (blk_cell HW.out.res 2).trans rfl
        have fR2 := blk_frozen HW.out.res 2
        have cR3 : w10.cell? ⟨w.heap.size, 3, none⟩ = some (.int .u8 0 : Value) := (blk_cell HW.out.res 3).trans rfl
        have fR3 := blk_frozen HW.out.res 3
        have cR4 : w10.cell? ⟨w.heap.size, 4, none⟩ = some (.string ⟨#[]⟩ : Value) := (blk_cell HW.out.res 4).trans rfl
        have fR4 := blk_frozen HW.out.res 4
        have cR5 : w10.cell? ⟨w.heap.size, 5, none⟩ = some (.string ⟨#[]⟩ : Value) := (blk_cell HW.out.res 5).trans rfl
        have fR5 := blk_frozen HW.out.res 5
        have cR6 : w10.cell? ⟨w.heap.size, 6, none⟩ = some (.int .i64 0 : Value) := (blk_cell HW.out.res 6).trans rfl
        have fR6 := blk_frozen HW.out.res 6
        have cR7 : w10.cell? ⟨w.heap.size, 7, none⟩ = some (.int .i64 0 : Value) := (blk_cell HW.out.res 7).trans rfl
        have fR7 := blk_frozen HW.out.res 7
        go_wp2
        refine bodyPost_ret (results_ct rfl _ _ w.heap.size 77 _ (0, 0) _ rfl (blk_set (blk_set (blk_set (blk_set (blk_set (blk_set (blk_set (blk_set HW.out.res 0 _) 1 _) 2 _) 3 _) 4 _) 5 _) 6 _) 7 _) Try.underlying77 rfl (by kernel_rfl)) rfl ?_
        exact ⟨rfl, (below_set (below_set (below_set (below_set (below_set (below_set (below_set (below_set HW.out.below (Nat.le_refl _)) (Nat.le_refl _)) (Nat.le_refl _)) (Nat.le_refl _)) (Nat.le_refl _)) (Nat.le_refl _)) (Nat.le_refl _)) (Nat.le_refl _))⟩
      | true =>
        have HE := Aside0.mk (Option.some.inj (show some (x0.1, x1.1, x2.1, x3.1 % 256, y0, y1, wrap64 x4.1, wrap64 x5.1, (0 : Int)) = some (r1, r2, r3, r4, r5, r6, r7, r8, r9) from HF.out))
        clear HF
        obtain ⟨rfl, rfl, rfl, rfl, rfl, rfl, rfl, rfl, rfl⟩ := by simpa only [Prod.mk.injEq] using HE.out
        clear HE
        have cR0 : w10.cell? ⟨w.heap.size, 0, none⟩ = some (.int .u64 0 : Value) := (blk_cell HW.out.res 0).trans rfl
        have fR0 := blk_frozen HW.out.res 0
        have cR1 : w10.cell? ⟨w.heap.size, 1, none⟩ = some (.int .u64 0 : Value) := (blk_cell HW.out.res 1).trans rfl
        have fR1 := blk_frozen HW.out.res 1
        have cR2 : w10.cell? ⟨w.heap.size, 2, none⟩ = some (.int .u64 0 : Value) := (blk_cell HW.out.res 2).trans rfl
        have fR2 := blk_frozen HW.out.res 2
        have cR3 : w10.cell? ⟨w.heap.size, 3, none⟩ = some (.int .u8 0 : Value) := (blk_cell HW.out.res 3).trans rfl
        have fR3 := blk_frozen HW.out.res 3
        have cR4 : w10.cell? ⟨w.heap.size, 4, none⟩ = some (.string ⟨#[]⟩ : Value) := (blk_cell HW.out.res 4).trans rfl
        have fR4 := blk_frozen HW.out.res 4
        have cR5 : w10.cell? ⟨w.heap.size, 5, none⟩ = some (.string ⟨#[]⟩ : Value) := (blk_cell HW.out.res 5).trans rfl
        have fR5 := blk_frozen HW.out.res 5
        have cR6 : w10.cell? ⟨w.heap.size, 6, none⟩ = some (.int .i64 0 : Value) := (blk_cell HW.out.res 6).trans rfl
        have fR6 := blk_frozen HW.out.res 6
        have cR7 : w10.cell? ⟨w.heap.size, 7, none⟩ = some (.int .i64 0 : Value) := (blk_cell HW.out.res 7).trans rfl
        have fR7 := blk_frozen HW.out.res 7
        have cT0 : w10.cell? ⟨w7.heap.size, 0, none⟩ = some (.int .u64 x0.1) := (blk_cell HW.out.var 0).trans rfl
        have cT1 : w10.cell? ⟨w7.heap.size, 1, none⟩ = some (.int .u64 x1.1) := (blk_cell HW.out.var 1).trans rfl
        have cT2 : w10.cell? ⟨w7.heap.size, 2, none⟩ = some (.int .u64 x2.1) := (blk_cell HW.out.var 2).trans rfl
        have cT3 : w10.cell? ⟨w7.heap.size, 3, none⟩ = some (.int .u8 (x3.1 % 256)) := (blk_cell HW.out.var 3).trans rfl
        have cT4 : w10.cell? ⟨w7.heap.size, 4, none⟩ = some (.string y0) := (blk_cell HW.out.var 4).trans rfl
        have cT5 : w10.cell? ⟨w7.heap.size, 5, none⟩ = some (.string y1) := (blk_cell HW.out.var 5).trans rfl
        have cT6 : w10.cell? ⟨w7.heap.size, 6, none⟩ = some (.int .i64 (wrap64 x4.1)) := (blk_cell HW.out.var 6).trans rfl
        have cT7 : w10.cell? ⟨w7.heap.size, 7, none⟩ = some (.int .i64 (wrap64 x5.1)) := (blk_cell HW.out.var 7).trans rfl
        go_wp2
        refine bodyPost_ret (results_ct rfl _ _ w.heap.size 77 _ (0, 0) _ rfl (blk_set (blk_set (blk_set (blk_set (blk_set (blk_set (blk_set (blk_set HW.out.res 0 _) 1 _) 2 _) 3 _) 4 _) 5 _) 6 _) 7 _) Try.underlying77 rfl (by kernel_rfl)) rfl ?_
        exact ⟨rfl, (below_set (below_set (below_set (below_set (below_set (below_set (below_set (below_set HW.out.below (Nat.le_refl _)) (Nat.le_refl _)) (Nat.le_refl _)) (Nat.le_refl _)) (Nat.le_refl _)) (Nat.le_refl _)) (Nat.le_refl _)) (Nat.le_refl _))⟩
mutual
def wire_Get.j0 : Nat → Int → List Int → Bool → Option ((List (S77)) × Int)
  | 0, _, _, _ => none
  | k + 1, x4, x6, x20 => if x20 = true then (some (([] : List (S77)), 3)) else (if (x6.length : Int) < (wrap64 ((wrap64 (x4)) * 75)) then (some (([] : List (S77)), 2)) else (if (x6.length : Int) > (wrap64 ((wrap64 (x4)) * 75)) then (some (([] : List (S77)), 3)) else (wire_Get.l0 k x6 ([] : List (S77)))))
def wire_Get.l0 : Nat → List Int → List (S77) → Option ((List (S77)) × Int)
  | 0, _, _ => none
  | k + 1, x6, x7 => if (x6.length : Int) > 0 then (if 75 ≤ (x6.length : Int) then ((wire_get.f k (x6.take 75)).bind fun bt200 => (if bt200.2.2.2.2.2.2.2.2 = 0 then (if x7.length < 1759218604441 then (wire_Get.l0 k (x6.drop 75) (x7 ++ [(⟨bt200.1, bt200.2.1, bt200.2.2.1, bt200.2.2.2.1, bt200.2.2.2.2.1, bt200.2.2.2.2.2.1, bt200.2.2.2.2.2.2.1, bt200.2.2.2.2.2.2.2.1⟩ : S77)])) else (none)) else (some (([] : List (S77)), bt200.2.2.2.2.2.2.2.2)))) else (none)) else (some (x7, 0))
end
def wire_Get.f (k : Nat) (l0 : List Int) : Option ((List (S77)) × Int) := if (l0.length : Int) < 6 then (some (([] : List (S77)), 2)) else ((pack_Get.f k l0 4 2).bind fun bt183 => (if 6 ≤ (l0.length : Int) then ((some (l0.drop 6 : List Int)).bind fun y185 => (if 4 ≤ (l0.length : Int) then ((some (l0.take 4 : List Int)).bind fun y190 => (if (strOfNums y190).toList = ([83, 80, 65, 78] : List UInt8) then (if bt183.1 = 0 then (wire_Get.j0 k bt183.1 y185 (bt183.1 == 0)) else (wire_Get.j0 k bt183.1 y185 (decide (bt183.1 > 32)))) else (wire_Get.j0 k bt183.1 y185 ((strOfNums y190).toList != ([83, 80, 65, 78] : List UInt8))))) else (none))) else (none)))
theorem wire_Get.mono_l : ∀ k, (∀ y0 y1 y2, LeO (wire_Get.j0 k y0 y1 y2) (wire_Get.j0 (k + 1) y0 y1 y2)) ∧ (∀ y0 y1, LeO (wire_Get.l0 k y0 y1) (wire_Get.l0 (k + 1) y0 y1))
  | 0 => ⟨fun _ _ _ r h => by simp [wire_Get.j0] at h, fun _ _ r h => by simp [wire_Get.l0] at h⟩
  | k + 1 => by
    obtain ⟨ih0, ih1⟩ := wire_Get.mono_l k
    refine ⟨?_, ?_⟩
    · intro y0 y1 y2
      unfold wire_Get.j0
      repeat' first
      | (with_reducible exact ih0 _ _ _)
      | (with_reducible exact ih1 _ _)
      | (with_reducible exact pack_Get.mono _ _ _ _)
      | (with_reducible exact wire_get.mono _ _)
      | (with_reducible exact LeO.refl _)
      | (with_reducible exact LeO.none _)
      | (with_reducible refine LeO.ite ?_ ?_)
      | (with_reducible refine LeO.bind ?_ (fun _ => ?_))
      | exact ih0 _ _ _
      | exact ih1 _ _
      | exact pack_Get.mono _ _ _ _
      | exact wire_get.mono _ _
      | exact LeO.none _
      | refine LeO.ite ?_ ?_
      | refine LeO.bind ?_ (fun _ => ?_)
    · intro y0 y1
      unfold wire_Get.l0
      repeat' first
      | (with_reducible exact ih0 _ _ _)
      | (with_reducible exact ih1 _ _)
      | (with_reducible exact pack_Get.mono _ _ _ _)
      | (with_reducible exact wire_get.mono _ _)
      | (with_reducible exact LeO.refl _)
      | (with_reducible exact LeO.none _)
      | (with_reducible refine LeO.ite ?_ ?_)
      | (with_reducible refine LeO.bind ?_ (fun _ => ?_))
      | exact ih0 _ _ _
      | exact ih1 _ _
      | exact pack_Get.mono _ _ _ _
      | exact wire_get.mono _ _
      | exact LeO.none _
      | refine LeO.ite ?_ ?_
      | refine LeO.bind ?_ (fun _ => ?_)
theorem wire_Get.mono : ∀ a0 k, LeO (wire_Get.f k a0) (wire_Get.f (k + 1) a0) := by
  intro a0 k
  obtain ⟨ih0, ih1⟩ := wire_Get.mono_l k
  unfold wire_Get.f
  repeat' first
      | (with_reducible exact ih0 _ _ _)
      | (with_reducible exact ih1 _ _)
      | (with_reducible exact pack_Get.mono _ _ _ _)
      | (with_reducible exact wire_get.mono _ _)
      | (with_reducible exact LeO.refl _)
      | (with_reducible exact LeO.none _)
      | (with_reducible refine LeO.ite ?_ ?_)
      | (with_reducible refine LeO.bind ?_ (fun _ => ?_))
      | exact ih0 _ _ _
      | exact ih1 _ _
      | exact pack_Get.mono _ _ _ _
      | exact wire_get.mono _ _
      | exact LeO.none _
      | refine LeO.ite ?_ ?_
      | refine LeO.bind ?_ (fun _ => ?_)
set_option maxHeartbeats 8000000 in
set_option maxRecDepth 100000 in
theorem wire_Get.calls (k : Nat) (P0_ : Nat → Prop) (A0 : Option Addr) (c0 : Nat) (l0 : List Int) (r1 : List (S77)) (r2 : Int) (w : World) (hs0 : Kd.V (Kd.int .u8) 5 w w.heap.size (fun k_ => P0_ k_) (.slice A0 l0.length c0) l0) (h : wire_Get.f k l0 = some (r1, r2)) :
    Calls Try.prog 29 #[.slice A0 l0.length c0] w fun e w' => ∃ v0_ : Value, e = .returned (.tuple #[v0_, .int .i64 r2]) ∧ Kd.R k77 77 w' w.heap.size (fun k_ => (w.heap.size ≤ k_)) v0_ r1 ∧ Below w.heap.size w w' := by
  have hu77 := Try.underlying77
  have HO0 := Aside0.mk (show Kd.V (Kd.int .u8) 5 w w.heap.size (fun k_ => (P0_ k_ ∨ w.heap.size ≤ k_)) (.slice A0 l0.length c0) l0 from Kd.V_mono hs0 (fun k_ hk => .inl hk))
  have HB := Aside0.mk (Below.refl w.heap.size w)
  have H : (if (l0.length : Int) < 6 then (some (([] : List (S77)), 2)) else ((pack_Get.f k l0 4 2).bind fun bt183 => (if 6 ≤ (l0.length : Int) then ((some (l0.drop 6 : List Int)).bind fun y185 => (if 4 ≤ (l0.length : Int) then ((some (l0.take 4 : List Int)).bind fun y190 => (if (strOfNums y190).toList = ([83, 80, 65, 78] : List UInt8) then (if bt183.1 = 0 then (wire_Get.j0 k bt183.1 y185 (bt183.1 == 0)) else (wire_Get.j0 k bt183.1 y185 (decide (bt183.1 > 32)))) else (wire_Get.j0 k bt183.1 y185 ((strOfNums y190).toList != ([83, 80, 65, 78] : List UInt8))))) else (none))) else (none)))) = some (r1, r2) := h
  clear h
  by_cases c2 : (l0.length : Int) < 6
  · rw [if_pos c2] at H
    have c2b0 : decide ((l0.length : Int) < 6) = true := decide_eq_true c2
    have c2b1 : decide (l0.length < 6) = true := decide_eq_true (by omega)
    clear c2
    simp only [Option.some.injEq, Prod.mk.injEq] at H
    obtain ⟨rfl, rfl⟩ := H
    go_enter Try.func29, Try.ntmps29
    go_wp2
    go_ret2
    exact ⟨_, by first | rfl | (simp [errW_none, errW_some] <;> rfl) | (simp [*, errW_none, errW_some] <;> rfl), by first | exact Kd.R_nil _ _ _ _ _ | exact Kd.N_nil _ _ _ _ _ | exact Kd.V_nil _ _ _ _ _ | exact Kd.Q_nil _ _ _ _ _ | exact Kd.S_nil _ _ _ _ _, by repeat (first | (with_reducible first | exact HB.out | apply below_alloc | apply pw_below_drewN | apply below_drew1) | exact HB.out)⟩
  · rw [if_neg c2] at H
    have c2b0 : decide ((l0.length : Int) < 6) = false := decide_eq_false c2
    have c2b1 : decide (l0.length < 6) = false := decide_eq_false (by omega)
    clear c2
    replace H := Option.bind_eq_some_iff.mp H
    obtain ⟨⟨t183, t184⟩, A30, H⟩ := H
    replace H : (if 6 ≤ (l0.length : Int) then ((some (l0.drop 6 : List Int)).bind fun y185 => (if 4 ≤ (l0.length : Int) then ((some (l0.take 4 : List Int)).bind fun y190 => (if (strOfNums y190).toList = ([83, 80, 65, 78] : List UInt8) then (if t183 = 0 then (wire_Get.j0 k t183 y185 (t183 == 0)) else (wire_Get.j0 k t183 y185 (decide (t183 > 32)))) else (wire_Get.j0 k t183 y185 ((strOfNums y190).toList != ([83, 80, 65, 78] : List UInt8))))) else (none))) else (none)) = some (r1, r2) := H
    have A3 := Aside0.mk A30
    clear A30
    by_cases c4 : 6 ≤ (l0.length : Int)
    · rw [if_pos c4] at H
      have c4b0 := eq_true c4
      have c4b1 : decide (6 ≤ (l0.length : Int)) = true := decide_eq_true c4
      clear c4
      obtain ⟨y185, hy185⟩ : ∃ y_ : List Int, y_ = (l0.drop 6) := ⟨_, rfl⟩
      replace H : (if 4 ≤ (l0.length : Int) then ((some (l0.take 4 : List Int)).bind fun y190 => (if (strOfNums y190).toList = ([83, 80, 65, 78] : List UInt8) then (if t183 = 0 then (wire_Get.j0 k t183 y185 (t183 == 0)) else (wire_Get.j0 k t183 y185 (decide (t183 > 32)))) else (wire_Get.j0 k t183 y185 ((strOfNums y190).toList != ([83, 80, 65, 78] : List UInt8))))) else (none)) = some (r1, r2) := by first | (rw [hy185]; with_reducible exact H) | (have H2_ := (Option.bind_some _ _).symm.trans H; rw [hy185]; with_reducible exact H2_) | (have H2_ := (Option.bind_some _ _).symm.trans H; with_reducible exact H2_) | with_reducible exact H | (rw [hy185]; exact H) | exact H
      have Ny185 := Aside0.mk hy185
      clear hy185
      by_cases c5 : 4 ≤ (l0.length : Int)
      · rw [if_pos c5] at H
        have c5b0 := eq_true c5
        have c5b1 : decide (4 ≤ (l0.length : Int)) = true := decide_eq_true c5
        clear c5
        obtain ⟨y190, hy190⟩ : ∃ y_ : List Int, y_ = (l0.take 4) := ⟨_, rfl⟩
        replace H : (if (strOfNums y190).toList = ([83, 80, 65, 78] : List UInt8) then (if t183 = 0 then (wire_Get.j0 k t183 y185 (t183 == 0)) else (wire_Get.j0 k t183 y185 (decide (t183 > 32)))) else (wire_Get.j0 k t183 y185 ((strOfNums y190).toList != ([83, 80, 65, 78] : List UInt8)))) = some (r1, r2) := by first | (rw [hy190]; with_reducible exact H) | (have H2_ := (Option.bind_some _ _).symm.trans H; rw [hy190]; with_reducible exact H2_) | (have H2_ := (Option.bind_some _ _).symm.trans H; with_reducible exact H2_) | with_reducible exact H | (rw [hy190]; exact H) | exact H
        have Ny190 := Aside0.mk hy190
        clear hy190
        have HC6 := Aside0.mk H
        clear H
        go_enter Try.func29, Try.ntmps29
        go_upto_if 20 with (first | ((with_reducible refine gate_callee (f := 43) rfl ?_); refine goesL_ (some 15) rfl rfl Try.func43 (by kernel_rfl) rfl #[.slice A0 l0.length c0, .int .i64 4, .int .i64 2] rfl (by (try simp only [List.map_toArray, List.map_cons, List.map_nil]); first | done | rfl | (simp only [List.length_drop, List.length_take]; rfl)) ?_; (with_reducible refine (pack_Get.calls k _ _ l0 4 2 t183 t184 _ ?side1 ?side2 A3.out).mono ?_); (case side1 => repeat (first | exact (Kd.V_reads' HO0.out).2.2 | (with_reducible refine Kd.C_alloc ?_ _) | (with_reducible refine Kd.C_drewN ?_ _) | (with_reducible refine Kd.C_drew ?_))); (case side2 => exact (Kd.V_reads' HO0.out).2.1); rintro e w7 ⟨rfl, hb⟩; refine ⟨_, rfl, ?_⟩; have n0_ := Aside0.mk (Kd.V_below (by (with_reducible repeat (first | apply Kd.V_alloc | apply Kd.V_drewN | apply Kd.V_drew)); exact HO0.out) hb); have n1_ := Aside0.mk (below_step (by repeat (first | (with_reducible first | exact HB.out | apply below_alloc | apply pw_below_drewN | apply below_drew1) | exact HB.out)) hb); clear HO0; clear HB; have HO0 := n0_; have HB := n1_; clear n0_ n1_; (try clear hb); (try clear hb2); (try clear hk); (try clear hi); have q8 : (6 : Int) ≤ ((l0.length : Int) : Int) := of_decide_eq_true (by first | (with_reducible assumption) | assumption); obtain ⟨i08, hi08, _, hsz8, _⟩ := info_parts info5; have hroom8 : l0.length ≤ c0 := (Kd.V_reads' HO0.out).2.1; have hC8 : Kd.F (Kd.int .u8) _ _ A0 l0.length l0 := (Kd.V_at (base := w.heap.size) HO0.out).2.2; have hcut8 := cut_from (P := Try.prog) 25 5 .i64 Try.underlying25 hi08 1 hsz8 A0 l0.length c0 6 (by omega) q8; have hr8 := Kd.F_cut (m := (6 : Int).toNat) (c := c0) hC8 (by omega) hroom8; obtain ⟨A8, hA8⟩ : ∃ A1, A1 = (if c0 = (6 : Int).toNat then A0 else (A0 : Option Addr).map (·.add ((6 : Int).toNat * 1))) := ⟨_, rfl⟩; obtain ⟨c8, hc8⟩ : ∃ c1, c1 = c0 - (6 : Int).toNat := ⟨_, rfl⟩; have hy8 : y185.length = l0.length - (6 : Int).toNat := (by rw [Ny185.out, List.length_drop] <;> omega); rw [show (l0).drop (6 : Int).toNat = y185 from Ny185.out.symm] at hr8; replace hr8 : Kd.F (Kd.int .u8) _ _ A8 y185.length y185 := (by rw [hA8]; exact hr8); rw [← hy8, ← hA8, ← hc8] at hcut8; have HO189 := Aside0.mk (show Kd.V (Kd.int .u8) 5 _ w.heap.size _ (.slice A8 y185.length c8) y185 from Kd.V_mk (by rw [hy8, hc8]; exact Nat.sub_le_sub_right hroom8 _) hr8); have HC189 := Aside0.mk (show y185.length ≤ c8 from by rw [hy8, hc8]; exact Nat.sub_le_sub_right hroom8 _); clear hr8 hC8 hroom8 hi08 hsz8 hc8; have KY8 := Aside0.mk hy8; have KA8 := Aside0.mk hA8; clear hy8 hA8; replace q8 := eq_true q8; have q9 : (4 : Int) ≤ ((l0.length : Int) : Int) := of_decide_eq_true (by first | (with_reducible assumption) | assumption); obtain ⟨i09, hi09, _, hsz9, _⟩ := info_parts info5; have hroom9 : l0.length ≤ c0 := (Kd.V_reads' HO0.out).2.1; have hC9 : Kd.F (Kd.int .u8) _ _ A0 l0.length l0 := (Kd.V_at (base := w.heap.size) HO0.out).2.2; have hcut9 := cut_to (P := Try.prog) 25 5 .i64 Try.underlying25 hi09 A0 l0.length c0 4 (by omega) q9 hroom9; have hr9 := Kd.F_take (m := 4) hC9 (by omega); have hy9 : y190.length = (4 : Int).toNat := (by rw [Ny190.out, List.length_take]; omega); rw [← Ny190.out] at hr9; rw [← hy9] at hcut9; have HO194 := Aside0.mk (show Kd.V (Kd.int .u8) 5 _ w.heap.size _ (.slice A0 y190.length c0) y190 from Kd.V_mk (by omega) hr9); have HC194 := Aside0.mk (show y190.length ≤ c0 from by omega); clear hr9 hC9 hroom9 hi09 hsz9; have KY9 := Aside0.mk hy9; clear hy9; replace q9 := eq_true q9; have hcv10 := Kd.C_string (P := Try.prog) (A := A0) (c := c0) Try.underlying25 Try.underlying5 Try.underlying9 (Kd.V_reads' HO194.out).2.2))
        (try simp only [Act.put, List.setIfInBounds_toArray, List.set_cons_zero, List.set_cons_succ])
        go_cut [20] (fun v20 wc => ∃ (kq : Nat) (x20_5 : Bool), v20 = .bool x20_5 ∧ Aside0 (wire_Get.j0 kq t183 y185 x20_5 = some (r1, r2)) ∧ Aside0 (kq ≤ k) ∧ Aside0 (Kd.V (Kd.int .u8) 5 wc w.heap.size (fun k_ => (P0_ k_ ∨ w.heap.size ≤ k_)) (.slice A8 y185.length c8) y185) ∧ Aside0 (Below w.heap.size w wc))
        case first =>
          have H := HC6.out
          clear HC6
          by_cases c11 : (strOfNums y190).toList = ([83, 80, 65, 78] : List UInt8)
          · rw [if_pos c11] at H
            have c11b0 : ((strOfNums y190).toList == ([83, 80, 65, 78] : List UInt8)) = true := beq_iff_eq.mpr c11
            have c11b1 : ((strOfNums y190).toList != ([83, 80, 65, 78] : List UInt8)) = false := bne_eq_false_iff_eq.mpr c11
            clear c11
            (first | rw [c11b0] | (simp only [i64_w, i32_w]; rw [c11b0]) | skip)
            by_cases c12 : t183 = 0
            · rw [if_pos c12] at H
              have c12b0 : (t183 == 0) = true := beq_iff_eq.mpr c12
              have c12b1 : (t183 != 0) = false := bne_eq_false_iff_eq.mpr c12
              clear c12
              have H' := Aside0.mk H
              clear H
              go_wp2
              go_meet
              case rel => exact ⟨_, ((t183 == 0)), (by first | rfl | (simp; done) | (simp [*]; done)), H', ⟨by first | omega | exact Nat.le_refl _⟩, ⟨by (with_reducible repeat (first | apply Kd.V_alloc | apply Kd.V_drewN | apply Kd.V_drew)); exact HO189.out⟩, ⟨by repeat (first | (with_reducible first | exact HB.out | apply below_alloc | apply pw_below_drewN | apply below_drew1) | exact HB.out)⟩⟩
            · rw [if_neg c12] at H
              have c12b0 : (t183 == 0) = false := beq_eq_false_iff_ne.mpr c12
              have c12b1 : (t183 != 0) = true := bne_iff_ne.mpr c12
              have H' := Aside0.mk H
              clear H
              go_wp2
              go_meet
              case rel => exact ⟨_, (decide (t183 > 32)), (by first | rfl | (simp; done) | (simp [*]; done)), H', ⟨by first | omega | exact Nat.le_refl _⟩, ⟨by (with_reducible repeat (first | apply Kd.V_alloc | apply Kd.V_drewN | apply Kd.V_drew)); exact HO189.out⟩, ⟨by repeat (first | (with_reducible first | exact HB.out | apply below_alloc | apply pw_below_drewN | apply below_drew1) | exact HB.out)⟩⟩
          · rw [if_neg c11] at H
            have c11b0 : ((strOfNums y190).toList == ([83, 80, 65, 78] : List UInt8)) = false := beq_eq_false_iff_ne.mpr c11
            have c11b1 : ((strOfNums y190).toList != ([83, 80, 65, 78] : List UInt8)) = true := bne_iff_ne.mpr c11
            (first | rw [c11b0] | (simp only [i64_w, i32_w]; rw [c11b0]) | skip)
            have H' := Aside0.mk H
            clear H
            go_wp2
            go_meet
            case rel => exact ⟨_, (((strOfNums y190).toList != ([83, 80, 65, 78] : List UInt8))), (by first | rfl | (simp; done) | (simp [*]; done)), H', ⟨by first | omega | exact Nat.le_refl _⟩, ⟨by (with_reducible repeat (first | apply Kd.V_alloc | apply Kd.V_drewN | apply Kd.V_drew)); exact HO189.out⟩, ⟨by repeat (first | (with_reducible first | exact HB.out | apply below_alloc | apply pw_below_drewN | apply below_drew1) | exact HB.out)⟩⟩
        case rest =>
          clear HC6
          try clear c1
          try clear hcv1
          try clear c2
          try clear c2b0
          try clear c2b1
          try clear p2
          try clear c4
          try clear c4b0
          try clear c4b1
          try clear c5
          try clear c5b0
          try clear c5b1
          try clear c8
          try clear q8
          try clear q9
          try clear hcv10
          try clear c11
          try clear c11b0
          try clear c11b1
          try clear c12
          try clear c12b0
          try clear c12b1
          try clear q8
          try clear q9
          obtain ⟨kq, x20_5, rfl, HA, HJ5, HO_6, HB⟩ := hcut
          cases kq with
          | zero => exact absurd HA.out (by simp [wire_Get.j0])
          | succ kj5 =>
            have H := HA.out
            clear HA
            simp only [wire_Get.j0] at H
            by_cases c13 : x20_5 = true
            · subst c13
              have H1 : (some (([] : List (S77)), 3)) = some (r1, r2) := by rw [if_pos rfl] at H; exact H
              clear H
              have H := H1
              clear H1
              simp only [Option.some.injEq, Prod.mk.injEq] at H
              obtain ⟨rfl, rfl⟩ := H
              go_wp2
              go_ret2
              exact ⟨_, by first | rfl | (simp [errW_none, errW_some] <;> rfl) | (simp [*, errW_none, errW_some] <;> rfl), by first | exact Kd.R_nil _ _ _ _ _ | exact Kd.N_nil _ _ _ _ _ | exact Kd.V_nil _ _ _ _ _ | exact Kd.Q_nil _ _ _ _ _ | exact Kd.S_nil _ _ _ _ _, by repeat (first | (with_reducible first | exact HB.out | apply below_alloc | apply pw_below_drewN | apply below_drew1) | exact HB.out)⟩
            · replace c13 := Bool.eq_false_iff.mpr c13
              subst c13
              have H1 : (if (y185.length : Int) < (wrap64 ((wrap64 (t183)) * 75)) then (some (([] : List (S77)), 2)) else (if (y185.length : Int) > (wrap64 ((wrap64 (t183)) * 75)) then (some (([] : List (S77)), 3)) else (wire_Get.l0 kj5 y185 ([] : List (S77))))) = some (r1, r2) := by rw [if_neg (show ¬ (false = true) by decide)] at H; exact H
              clear H
              have H := H1
              clear H1
              by_cases c14 : (y185.length : Int) < (wrap64 ((wrap64 (t183)) * 75))
              · rw [if_pos c14] at H
                have c14b0 : decide ((y185.length : Int) < (wrap64 ((wrap64 (t183)) * 75))) = true := decide_eq_true c14
                clear c14
                simp only [Option.some.injEq, Prod.mk.injEq] at H
                obtain ⟨rfl, rfl⟩ := H
                go_wp2
                go_ret2
                exact ⟨_, by first | rfl | (simp [errW_none, errW_some] <;> rfl) | (simp [*, errW_none, errW_some] <;> rfl), by first | exact Kd.R_nil _ _ _ _ _ | exact Kd.N_nil _ _ _ _ _ | exact Kd.V_nil _ _ _ _ _ | exact Kd.Q_nil _ _ _ _ _ | exact Kd.S_nil _ _ _ _ _, by repeat (first | (with_reducible first | exact HB.out | apply below_alloc | apply pw_below_drewN | apply below_drew1) | exact HB.out)⟩
              · rw [if_neg c14] at H
                have c14b0 : decide ((y185.length : Int) < (wrap64 ((wrap64 (t183)) * 75))) = false := decide_eq_false c14
                clear c14
                by_cases c15 : (y185.length : Int) > (wrap64 ((wrap64 (t183)) * 75))
                · rw [if_pos c15] at H
                  have c15b0 : decide ((wrap64 ((wrap64 (t183)) * 75)) < (y185.length : Int)) = true := decide_eq_true c15
                  clear c15
                  simp only [Option.some.injEq, Prod.mk.injEq] at H
                  obtain ⟨rfl, rfl⟩ := H
                  go_wp2
                  go_ret2
                  exact ⟨_, by first | rfl | (simp [errW_none, errW_some] <;> rfl) | (simp [*, errW_none, errW_some] <;> rfl), by first | exact Kd.R_nil _ _ _ _ _ | exact Kd.N_nil _ _ _ _ _ | exact Kd.V_nil _ _ _ _ _ | exact Kd.Q_nil _ _ _ _ _ | exact Kd.S_nil _ _ _ _ _, by repeat (first | (with_reducible first | exact HB.out | apply below_alloc | apply pw_below_drewN | apply below_drew1) | exact HB.out)⟩
                · rw [if_neg c15] at H
                  have c15b0 : decide ((wrap64 ((wrap64 (t183)) * 75)) < (y185.length : Int)) = false := decide_eq_false c15
                  clear c15
                  have H' := Aside0.mk H
                  clear H
                  go_wp2
                  go_loopg [6, 7] kj5 (fun kq v6 v7 w' => ∃ (x6_2 : List Int) (x7_2 : List (S77)), Aside0 (wire_Get.l0 kq x6_2 x7_2 = some (r1, r2)) ∧ Aside0 (kq ≤ kj5) ∧ Aside0 (Kd.V (Kd.int .u8) 5 w' w.heap.size (fun k_ => (P0_ k_ ∨ w.heap.size ≤ k_) ∧ some k_ ≠ (v7 : Value).ownBlock) v6 x6_2) ∧ Aside0 (Kd.R k77 77 w' w.heap.size (fun k_ => (w.heap.size ≤ k_)) v7 x7_2) ∧ Aside0 (Below w.heap.size w w'))
                  case atStart => exact ⟨(y185), (([] : List (S77))), H', ⟨Nat.le_refl _⟩, ⟨by (with_reducible repeat (first | apply Kd.V_alloc | apply Kd.V_drewN | apply Kd.V_drew)); exact Kd.V_mono HO_6.out (fun _ hk => ⟨hk, (by simp [Value.ownBlock])⟩)⟩, ⟨by first | exact Kd.R_nil _ _ _ _ _ | exact Kd.N_nil _ _ _ _ _ | exact Kd.V_nil _ _ _ _ _ | exact Kd.Q_nil _ _ _ _ _ | exact Kd.S_nil _ _ _ _ _⟩, ⟨by repeat (first | (with_reducible first | exact HB.out | apply below_alloc | apply pw_below_drewN | apply below_drew1) | exact HB.out)⟩⟩
                  case round =>
                    clear H'
                    try clear c1
                    try clear hcv1
                    try clear c2
                    try clear c2b0
                    try clear c2b1
                    try clear p2
                    try clear c4
                    try clear c4b0
                    try clear c4b1
                    try clear c5
                    try clear c5b0
                    try clear c5b1
                    try clear p6
                    try clear c8
                    try clear q8
                    try clear q9
                    try clear hcv10
                    try clear c11
                    try clear c11b0
                    try clear c11b1
                    try clear c12
                    try clear c12b0
                    try clear c12b1
                    try clear c13
                    try clear c14
                    try clear c14b0
                    try clear c15
                    try clear c15b0
                    try clear p2
                    try clear q8
                    try clear q9
                    obtain ⟨x6_2, x7_2, HA, HK2, HO_6, HO_7, HB⟩ := hrel
                    cases gk with
                    | zero => exact absurd HA.out (by simp [wire_Get.l0])
                    | succ k2 =>
                      have H := HA.out
                      clear HA
                      simp only [wire_Get.l0] at H
                      by_cases c16 : (x6_2.length : Int) > 0
                      · rw [if_pos c16] at H
                        have c16b0 : decide (0 < (x6_2.length : Int)) = true := decide_eq_true c16
                        have c16b1 : decide (0 < x6_2.length) = true := decide_eq_true (by omega)
                        clear c16
                        by_cases c17 : 75 ≤ (x6_2.length : Int)
                        · rw [if_pos c17] at H
                          have c17b0 := eq_true c17
                          have c17b1 : decide (75 ≤ (x6_2.length : Int)) = true := decide_eq_true c17
                          clear c17
                          obtain ⟨y195, hy195⟩ : ∃ y_ : List Int, y_ = (x6_2.take 75) := ⟨_, rfl⟩
                          replace H : ((wire_get.f k2 y195).bind fun bt200 => (if bt200.2.2.2.2.2.2.2.2 = 0 then (if x7_2.length < 1759218604441 then (wire_Get.l0 k2 (x6_2.drop 75) (x7_2 ++ [(⟨bt200.1, bt200.2.1, bt200.2.2.1, bt200.2.2.2.1, bt200.2.2.2.2.1, bt200.2.2.2.2.2.1, bt200.2.2.2.2.2.2.1, bt200.2.2.2.2.2.2.2.1⟩ : S77)])) else (none)) else (some (([] : List (S77)), bt200.2.2.2.2.2.2.2.2)))) = some (r1, r2) := by first | (rw [hy195]; with_reducible exact H) | (have H2_ := (Option.bind_some _ _).symm.trans H; rw [hy195]; with_reducible exact H2_) | (have H2_ := (Option.bind_some _ _).symm.trans H; with_reducible exact H2_) | with_reducible exact H | (rw [hy195]; exact H) | exact H
                          have Ny195 := Aside0.mk hy195
                          clear hy195
                          replace H := Option.bind_eq_some_iff.mp H
                          obtain ⟨⟨t200, t201, t202, t203, t204, t205, t206, t207, t208⟩, A180, H⟩ := H
                          replace H : (if t208 = 0 then (if x7_2.length < 1759218604441 then (wire_Get.l0 k2 (x6_2.drop 75) (x7_2 ++ [(⟨t200, t201, t202, t203, t204, t205, t206, t207⟩ : S77)])) else (none)) else (some (([] : List (S77)), t208))) = some (r1, r2) := H
                          have A18 := Aside0.mk A180
                          clear A180
                          by_cases c19 : t208 = 0
                          · rw [if_pos c19] at H
                            have c19b0 : (t208 == 0) = true := beq_iff_eq.mpr c19
                            have c19b1 : (t208 != 0) = false := bne_eq_false_iff_eq.mpr c19
                            clear c19
                            by_cases c20 : x7_2.length < 1759218604441
                            · rw [if_pos c20] at H
                              have LMc20 := Aside0.mk c20
                              clear c20
                              obtain ⟨y210, hy210⟩ : ∃ y_ : List (S77), y_ = (x7_2 ++ [(⟨t200, t201, t202, t203, t204, t205, t206, t207⟩ : S77)]) := ⟨_, rfl⟩
                              replace H : (wire_Get.l0 k2 (x6_2.drop 75) y210) = some (r1, r2) := by first | (rw [hy210]; with_reducible exact H) | (have H2_ := (Option.bind_some _ _).symm.trans H; rw [hy210]; with_reducible exact H2_) | (have H2_ := (Option.bind_some _ _).symm.trans H; with_reducible exact H2_) | with_reducible exact H | (rw [hy210]; exact H) | exact H
                              have Ny210 := Aside0.mk hy210
                              clear hy210
                              have c21b0 := eq_true (of_decide_eq_true (by first | (with_reducible assumption) | assumption) : 75 ≤ (x6_2.length : Int))
                              obtain ⟨y213, hy213⟩ : ∃ y_ : List Int, y_ = (x6_2.drop 75) := ⟨_, rfl⟩
                              replace H : (wire_Get.l0 k2 y213 y210) = some (r1, r2) := by first | (rw [hy213]; with_reducible exact H) | (have H2_ := (Option.bind_some _ _).symm.trans H; rw [hy213]; with_reducible exact H2_) | (have H2_ := (Option.bind_some _ _).symm.trans H; with_reducible exact H2_) | with_reducible exact H | (rw [hy213]; exact H) | exact H
                              have Ny213 := Aside0.mk hy213
                              clear hy213
                              have H' := Aside0.mk H
                              clear H
                              obtain ⟨Ao22, co22, eo22⟩ := Kd.V_slice HO_6.out
                              subst eo22
                              have q23 : (75 : Int) ≤ ((x6_2.length : Int) : Int) := of_decide_eq_true (by first | (with_reducible assumption) | assumption)
                              obtain ⟨i023, hi023, _, hsz23, _⟩ := info_parts info5
                              have hroom23 : x6_2.length ≤ co22 := (Kd.V_reads' HO_6.out).2.1
                              have hC23 : Kd.F (Kd.int .u8) _ _ Ao22 x6_2.length x6_2 := (Kd.V_at (base := w.heap.size) HO_6.out).2.2
                              have hcut23 := cut_to (P := Try.prog) 25 5 .i64 Try.underlying25 hi023 Ao22 x6_2.length co22 75 (by omega) q23 hroom23
                              have hr23 := Kd.F_take (m := 75) hC23 (by omega)
                              have hy23 : y195.length = (75 : Int).toNat := (by rw [Ny195.out, List.length_take]; omega)
                              rw [← Ny195.out] at hr23
                              rw [← hy23] at hcut23
                              have HO199 := Aside0.mk (show Kd.V (Kd.int .u8) 5 _ w.heap.size _ (.slice Ao22 y195.length co22) y195 from Kd.V_mk (by omega) hr23)
                              have HC199 := Aside0.mk (show y195.length ≤ co22 from by omega)
                              clear hr23 hC23 hroom23 hi023 hsz23
                              have KY23 := Aside0.mk hy23
                              clear hy23
                              replace q23 := eq_true q23
                              go_wp2_with (first | ((with_reducible refine gate_callee (f := 49) rfl ?_); refine goesL_ (some 51) rfl rfl Try.func49 (by kernel_rfl) rfl #[.slice Ao22 y195.length co22] rfl (by (try simp only [List.map_toArray, List.map_cons, List.map_nil]); first | done | rfl | (simp only [List.length_drop, List.length_take]; rfl)) ?_; (with_reducible refine (wire_get.calls k2 _ _ y195 t200 t201 t202 t203 t204 t205 t206 t207 t208 _ ?side1 ?side2 A18.out).mono ?_); (case side1 => repeat (first | exact (Kd.V_reads' HO199.out).2.2 | (with_reducible refine Kd.C_alloc ?_ _) | (with_reducible refine Kd.C_drewN ?_ _) | (with_reducible refine Kd.C_drew ?_))); (case side2 => exact (Kd.V_reads' HO199.out).2.1); rintro e w24 ⟨rfl, hb⟩; refine ⟨_, rfl, ?_⟩; have n0_ := Aside0.mk (Kd.V_below (by (with_reducible repeat (first | apply Kd.V_alloc | apply Kd.V_drewN | apply Kd.V_drew)); exact HO_6.out) hb); have n1_ := Aside0.mk (Kd.R_below (by (with_reducible repeat (first | apply Kd.R_alloc | apply Kd.R_drewN | apply Kd.R_drew)); exact HO_7.out) hb); have n2_ := Aside0.mk (Kd.V_below (by (with_reducible repeat (first | apply Kd.V_alloc | apply Kd.V_drewN | apply Kd.V_drew)); exact HO199.out) hb); have n3_ := Aside0.mk (below_step (by repeat (first | (with_reducible first | exact HB.out | apply below_alloc | apply pw_below_drewN | apply below_drew1) | exact HB.out)) hb); clear HO_6; clear HO_7; clear HO199; clear HB; have HO_6 := n0_; have HO_7 := n1_; have HO199 := n2_; have HB := n3_; clear n0_ n1_ n2_ n3_; (try clear hb); (try clear hb2); (try clear hk); (try clear hi)) | ((with_reducible refine gate_dst (N := 8) rfl ?_); refine box_event ?hg (N := 8) ?hd (cs := #[.int .u64 0, .int .u64 0, .int .u64 0, .int .u8 0, .string (⟨#[]⟩ : ByteArray), .string (⟨#[]⟩ : ByteArray), .int .i64 0, .int .i64 0]) (t := 77) ?hr ?_; (case hd => rfl); (case hg => rfl); (case hr => first | (go_simp; done) | (go_simp; rfl)); intro gb209 hg w25 hbox hb; have n0_ := Aside0.mk (Kd.V_below (Kd.V_elderB (by (with_reducible repeat (first | apply Kd.V_alloc | apply Kd.V_drewN | apply Kd.V_drew)); exact HO_6.out) gb209 (Nat.le_of_eq hg.symm)) hb); have n1_ := Aside0.mk (Kd.R_below (Kd.R_elderB (by (with_reducible repeat (first | apply Kd.R_alloc | apply Kd.R_drewN | apply Kd.R_drew)); exact HO_7.out) gb209 (Nat.le_of_eq hg.symm)) hb); have n2_ := Aside0.mk (Kd.V_below (Kd.V_elderB (by (with_reducible repeat (first | apply Kd.V_alloc | apply Kd.V_drewN | apply Kd.V_drew)); exact HO199.out) gb209 (Nat.le_of_eq hg.symm)) hb); have n3_ := Aside0.mk (below_step (by repeat (first | (with_reducible first | exact HB.out | apply below_alloc | apply pw_below_drewN | apply below_drew1) | exact HB.out)) hb); have n4_ := Aside0.mk (hbox); have n5_ := Aside0.mk ((by rw [hg]; exact (below_size (by repeat (first | (with_reducible first | exact HB.out | apply below_alloc | apply pw_below_drewN | apply below_drew1) | exact HB.out))) : w.heap.size ≤ gb209)); have n6_ := Aside0.mk ((by rw [hg]; exact (below_size (by repeat (first | (with_reducible first | exact HB.out | apply below_alloc | apply pw_below_drewN | apply below_drew1) | exact HB.out))) : w.heap.size ≤ gb209)); clear HO_6; clear HO_7; clear HO199; clear HB; have HO_6 := n0_; have HO_7 := n1_; have HO199 := n2_; have HB := n3_; have BK209 := n4_; have GW209 := n5_; have GE209 := n6_; clear n0_ n1_ n2_ n3_ n4_ n5_ n6_; clear hb hbox hg; have hcz26_0 : w25.cell? ⟨gb209, 0, none⟩ = some (.int .u64 0) := (blk_cell BK209.out 0).trans rfl; have hcz26_1 : w25.cell? ⟨gb209, 1, none⟩ = some (.int .u64 0) := (blk_cell BK209.out 1).trans rfl; have hcz26_2 : w25.cell? ⟨gb209, 2, none⟩ = some (.int .u64 0) := (blk_cell BK209.out 2).trans rfl; have hcz26_3 : w25.cell? ⟨gb209, 3, none⟩ = some (.int .u8 0) := (blk_cell BK209.out 3).trans rfl; have hcz26_4 : w25.cell? ⟨gb209, 4, none⟩ = some (.string (⟨#[]⟩ : ByteArray)) := (blk_cell BK209.out 4).trans rfl; have hcz26_5 : w25.cell? ⟨gb209, 5, none⟩ = some (.string (⟨#[]⟩ : ByteArray)) := (blk_cell BK209.out 5).trans rfl; have hcz26_6 : w25.cell? ⟨gb209, 6, none⟩ = some (.int .i64 0) := (blk_cell BK209.out 6).trans rfl; have hcz26_7 : w25.cell? ⟨gb209, 7, none⟩ = some (.int .i64 0) := (blk_cell BK209.out 7).trans rfl; have hfz26_0 := blk_frozen BK209.out 0; have hfz26_1 := blk_frozen BK209.out 1; have hfz26_2 := blk_frozen BK209.out 2; have hfz26_3 := blk_frozen BK209.out 3; have hfz26_4 := blk_frozen BK209.out 4; have hfz26_5 := blk_frozen BK209.out 5; have hfz26_6 := blk_frozen BK209.out 6; have hfz26_7 := blk_frozen BK209.out 7) | ((with_reducible refine gate_builtin (b := .append) (xs := #[.tmp 57, .tmp 59]) rfl ?_); at_builtin; refine Kd.R_append k77 (w0 := w) w.heap.size rfl (.tmp 57) (.tmp 59) 22 77 (.agg #[(.int .u64 0), (.int .u64 0), (.int .u64 0), (.int .u8 0), (.string ⟨#[]⟩), (.string ⟨#[]⟩), (.int .i64 0), (.int .i64 0)]) 80 rfl Try.underlying22 info77 rfl (by decide) (by omega) u7 x7_2 (⟨t200, t201, t202, t203, t204, t205, t206, t207⟩ : S77) [.int .u64 t200, .int .u64 t201, .int .u64 t202, .int .u8 t203, .string t204, .string t205, .int .i64 t206, .int .i64 t207] (fun k_ => (w.heap.size ≤ k_) ∧ k_ ≠ gb209) (fun _ => False) rfl (by first | (go_simp; done) | (go_simp; rfl)) ?aP (fun _ hk => hk.elim) ?aF ?aO ?aB ?aS ?aL ?_; (case aP => exact k77_mkM _ _ _ (⟨t200, t201, t202, t203, t204, t205, t206, t207⟩ : S77)); (case aB => exact (by repeat (first | (with_reducible first | exact HB.out | apply below_alloc | apply pw_below_drewN | apply below_drew1 | refine below_set ?_ GE209.out) | exact HB.out))); (case aF => exact (fun k_ hk => ⟨(Nat.le_trans (below_size (by repeat (first | (with_reducible first | exact HB.out | apply below_alloc | apply pw_below_drewN | apply below_drew1 | refine below_set ?_ GE209.out) | exact HB.out))) hk), Kd.freshB (g := gb209) (o := .cells #[.int .u64 t200, .int .u64 t201, .int .u64 t202, .int .u8 t203, .string t204, .string t205, .int .i64 t206, .int .i64 t207] 77 (0, 0)) (by (with_reducible repeat (first | refine blk_drewN ?_ _ | refine blk_drew ?_ | refine blk_alloc ?_ _)); refine blk_put (cs := #[.int .u64 t200, .int .u64 t201, .int .u64 t202, .int .u8 t203, .string t204, .string t205, .int .i64 t206, .int .i64 0]) ?_ 7 _ rfl; (with_reducible repeat (first | refine blk_drewN ?_ _ | refine blk_drew ?_ | refine blk_alloc ?_ _)); refine blk_put (cs := #[.int .u64 t200, .int .u64 t201, .int .u64 t202, .int .u8 t203, .string t204, .string t205, .int .i64 0, .int .i64 0]) ?_ 6 _ rfl; (with_reducible repeat (first | refine blk_drewN ?_ _ | refine blk_drew ?_ | refine blk_alloc ?_ _)); refine blk_put (cs := #[.int .u64 t200, .int .u64 t201, .int .u64 t202, .int .u8 t203, .string t204, .string (⟨#[]⟩ : ByteArray), .int .i64 0, .int .i64 0]) ?_ 5 _ rfl; (with_reducible repeat (first | refine blk_drewN ?_ _ | refine blk_drew ?_ | refine blk_alloc ?_ _)); refine blk_put (cs := #[.int .u64 t200, .int .u64 t201, .int .u64 t202, .int .u8 t203, .string (⟨#[]⟩ : ByteArray), .string (⟨#[]⟩ : ByteArray), .int .i64 0, .int .i64 0]) ?_ 4 _ rfl; (with_reducible repeat (first | refine blk_drewN ?_ _ | refine blk_drew ?_ | refine blk_alloc ?_ _)); refine blk_put (cs := #[.int .u64 t200, .int .u64 t201, .int .u64 t202, .int .u8 0, .string (⟨#[]⟩ : ByteArray), .string (⟨#[]⟩ : ByteArray), .int .i64 0, .int .i64 0]) ?_ 3 _ rfl; (with_reducible repeat (first | refine blk_drewN ?_ _ | refine blk_drew ?_ | refine blk_alloc ?_ _)); refine blk_put (cs := #[.int .u64 t200, .int .u64 t201, .int .u64 0, .int .u8 0, .string (⟨#[]⟩ : ByteArray), .string (⟨#[]⟩ : ByteArray), .int .i64 0, .int .i64 0]) ?_ 2 _ rfl; (with_reducible repeat (first | refine blk_drewN ?_ _ | refine blk_drew ?_ | refine blk_alloc ?_ _)); refine blk_put (cs := #[.int .u64 t200, .int .u64 0, .int .u64 0, .int .u8 0, .string (⟨#[]⟩ : ByteArray), .string (⟨#[]⟩ : ByteArray), .int .i64 0, .int .i64 0]) ?_ 1 _ rfl; (with_reducible repeat (first | refine blk_drewN ?_ _ | refine blk_drew ?_ | refine blk_alloc ?_ _)); refine blk_put (cs := #[.int .u64 0, .int .u64 0, .int .u64 0, .int .u8 0, .string (⟨#[]⟩ : ByteArray), .string (⟨#[]⟩ : ByteArray), .int .i64 0, .int .i64 0]) ?_ 0 _ rfl; (with_reducible repeat (first | refine blk_drewN ?_ _ | refine blk_drew ?_ | refine blk_alloc ?_ _)); exact BK209.out) k_ hk⟩)); (case aO => exact (by (with_reducible repeat (first | apply Kd.R_alloc | apply Kd.R_drewN | apply Kd.R_drew)); exact Kd.R_mono (Kd.R_far (p := ⟨gb209, 7, none⟩) (Kd.R_far (p := ⟨gb209, 6, none⟩) (Kd.R_far (p := ⟨gb209, 5, none⟩) (Kd.R_far (p := ⟨gb209, 4, none⟩) (Kd.R_far (p := ⟨gb209, 3, none⟩) (Kd.R_far (p := ⟨gb209, 2, none⟩) (Kd.R_far (p := ⟨gb209, 1, none⟩) (Kd.R_far (p := ⟨gb209, 0, none⟩) (Kd.R_mono HO_7.out (fun k_ hk => (⟨hk, hk.2⟩ : _ ∧ k_ ≠ gb209))) (fun _ hk => hk.2) (.int .u64 t200)) (fun _ hk => hk.2) (.int .u64 t201)) (fun _ hk => hk.2) (.int .u64 t202)) (fun _ hk => hk.2) (.int .u8 t203)) (fun _ hk => hk.2) (.string t204)) (fun _ hk => hk.2) (.string t205)) (fun _ hk => hk.2) (.int .i64 t206)) (fun _ hk => hk.2) (.int .i64 t207)) (fun _ hk => ⟨hk.1.1, hk.1.2⟩))); (case aS => exact (below_size (by repeat (first | (with_reducible first | exact HB.out | apply below_alloc | apply pw_below_drewN | apply below_drew1 | refine below_set ?_ GE209.out) | exact HB.out)))); (case aL => have := LMc20.out; omega); intro v211 w27 ho hb hg hat; rw [← Ny210.out] at ho; have n0_ := Aside0.mk (Kd.V_afterv (ok := (fun k_ => (P0_ k_ ∨ w.heap.size ≤ k_) ∧ k_ ≠ gb209)) (by (with_reducible repeat (first | apply Kd.V_alloc | apply Kd.V_drewN | apply Kd.V_drew)); exact Kd.V_mono (Kd.V_far (p := ⟨gb209, 7, none⟩) (Kd.V_far (p := ⟨gb209, 6, none⟩) (Kd.V_far (p := ⟨gb209, 5, none⟩) (Kd.V_far (p := ⟨gb209, 4, none⟩) (Kd.V_far (p := ⟨gb209, 3, none⟩) (Kd.V_far (p := ⟨gb209, 2, none⟩) (Kd.V_far (p := ⟨gb209, 1, none⟩) (Kd.V_far (p := ⟨gb209, 0, none⟩) (Kd.V_mono HO_6.out (fun k_ hk => (⟨hk, hk.2⟩ : _ ∧ k_ ≠ gb209))) (fun _ hk => hk.2) (.int .u64 t200)) (fun _ hk => hk.2) (.int .u64 t201)) (fun _ hk => hk.2) (.int .u64 t202)) (fun _ hk => hk.2) (.int .u8 t203)) (fun _ hk => hk.2) (.string t204)) (fun _ hk => hk.2) (.string t205)) (fun _ hk => hk.2) (.int .i64 t206)) (fun _ hk => hk.2) (.int .i64 t207)) (fun _ hk => ⟨⟨hk.1.1.1, hk.1.2⟩, hk.1.1.2⟩)) hg hat); have n1_ := Aside0.mk (Kd.V_afterv (ok := (fun k_ => (P0_ k_ ∨ w.heap.size ≤ k_) ∧ k_ ≠ gb209)) (by (with_reducible repeat (first | apply Kd.V_alloc | apply Kd.V_drewN | apply Kd.V_drew)); exact Kd.V_mono (Kd.V_far (p := ⟨gb209, 7, none⟩) (Kd.V_far (p := ⟨gb209, 6, none⟩) (Kd.V_far (p := ⟨gb209, 5, none⟩) (Kd.V_far (p := ⟨gb209, 4, none⟩) (Kd.V_far (p := ⟨gb209, 3, none⟩) (Kd.V_far (p := ⟨gb209, 2, none⟩) (Kd.V_far (p := ⟨gb209, 1, none⟩) (Kd.V_far (p := ⟨gb209, 0, none⟩) (Kd.V_mono HO199.out (fun k_ hk => (⟨hk, hk.2⟩ : _ ∧ k_ ≠ gb209))) (fun _ hk => hk.2) (.int .u64 t200)) (fun _ hk => hk.2) (.int .u64 t201)) (fun _ hk => hk.2) (.int .u64 t202)) (fun _ hk => hk.2) (.int .u8 t203)) (fun _ hk => hk.2) (.string t204)) (fun _ hk => hk.2) (.string t205)) (fun _ hk => hk.2) (.int .i64 t206)) (fun _ hk => hk.2) (.int .i64 t207)) (fun _ hk => ⟨⟨hk.1.1.1, hk.1.2⟩, hk.1.1.2⟩)) hg hat); have n2_ := Aside0.mk (blk_grown (g := gb209) (o := .cells #[.int .u64 t200, .int .u64 t201, .int .u64 t202, .int .u8 t203, .string t204, .string t205, .int .i64 t206, .int .i64 t207] 77 (0, 0)) (by (with_reducible repeat (first | refine blk_drewN ?_ _ | refine blk_drew ?_ | refine blk_alloc ?_ _)); refine blk_put (cs := #[.int .u64 t200, .int .u64 t201, .int .u64 t202, .int .u8 t203, .string t204, .string t205, .int .i64 t206, .int .i64 0]) ?_ 7 _ rfl; (with_reducible repeat (first | refine blk_drewN ?_ _ | refine blk_drew ?_ | refine blk_alloc ?_ _)); refine blk_put (cs := #[.int .u64 t200, .int .u64 t201, .int .u64 t202, .int .u8 t203, .string t204, .string t205, .int .i64 0, .int .i64 0]) ?_ 6 _ rfl; (with_reducible repeat (first | refine blk_drewN ?_ _ | refine blk_drew ?_ | refine blk_alloc ?_ _)); refine blk_put (cs := #[.int .u64 t200, .int .u64 t201, .int .u64 t202, .int .u8 t203, .string t204, .string (⟨#[]⟩ : ByteArray), .int .i64 0, .int .i64 0]) ?_ 5 _ rfl; (with_reducible repeat (first | refine blk_drewN ?_ _ | refine blk_drew ?_ | refine blk_alloc ?_ _)); refine blk_put (cs := #[.int .u64 t200, .int .u64 t201, .int .u64 t202, .int .u8 t203, .string (⟨#[]⟩ : ByteArray), .string (⟨#[]⟩ : ByteArray), .int .i64 0, .int .i64 0]) ?_ 4 _ rfl; (with_reducible repeat (first | refine blk_drewN ?_ _ | refine blk_drew ?_ | refine blk_alloc ?_ _)); refine blk_put (cs := #[.int .u64 t200, .int .u64 t201, .int .u64 t202, .int .u8 0, .string (⟨#[]⟩ : ByteArray), .string (⟨#[]⟩ : ByteArray), .int .i64 0, .int .i64 0]) ?_ 3 _ rfl; (with_reducible repeat (first | refine blk_drewN ?_ _ | refine blk_drew ?_ | refine blk_alloc ?_ _)); refine blk_put (cs := #[.int .u64 t200, .int .u64 t201, .int .u64 0, .int .u8 0, .string (⟨#[]⟩ : ByteArray), .string (⟨#[]⟩ : ByteArray), .int .i64 0, .int .i64 0]) ?_ 2 _ rfl; (with_reducible repeat (first | refine blk_drewN ?_ _ | refine blk_drew ?_ | refine blk_alloc ?_ _)); refine blk_put (cs := #[.int .u64 t200, .int .u64 0, .int .u64 0, .int .u8 0, .string (⟨#[]⟩ : ByteArray), .string (⟨#[]⟩ : ByteArray), .int .i64 0, .int .i64 0]) ?_ 1 _ rfl; (with_reducible repeat (first | refine blk_drewN ?_ _ | refine blk_drew ?_ | refine blk_alloc ?_ _)); refine blk_put (cs := #[.int .u64 0, .int .u64 0, .int .u64 0, .int .u8 0, .string (⟨#[]⟩ : ByteArray), .string (⟨#[]⟩ : ByteArray), .int .i64 0, .int .i64 0]) ?_ 0 _ rfl; (with_reducible repeat (first | refine blk_drewN ?_ _ | refine blk_drew ?_ | refine blk_alloc ?_ _)); exact BK209.out) hg (Kd.R_away HO_7.out (fun _ hk => hk.2))); have n3_ := Aside0.mk (hb); have n4_ := Aside0.mk (ho); clear HO_6; clear HO199; clear BK209; clear HB; clear HO_7; have HO_6 := n0_; have HO199 := n1_; have BK209 := n2_; have HB := n3_; have HO212 := n4_; clear n0_ n1_ n2_ n3_ n4_; clear ho hb hg hat; have q28 : (75 : Int) ≤ ((x6_2.length : Int) : Int) := of_decide_eq_true (by first | (with_reducible assumption) | assumption); obtain ⟨i028, hi028, _, hsz28, _⟩ := info_parts info5; have hroom28 : x6_2.length ≤ co22 := (Kd.V_reads' HO_6.out).2.1; have hC28 : Kd.F (Kd.int .u8) _ _ Ao22 x6_2.length x6_2 := (Kd.V_at (base := w.heap.size) HO_6.out).2.2; have hcut28 := cut_from (P := Try.prog) 25 5 .i64 Try.underlying25 hi028 1 hsz28 Ao22 x6_2.length co22 75 (by omega) q28; have hr28 := Kd.F_cut (m := (75 : Int).toNat) (c := co22) hC28 (by omega) hroom28; obtain ⟨A28, hA28⟩ : ∃ A1, A1 = (if co22 = (75 : Int).toNat then Ao22 else (Ao22 : Option Addr).map (·.add ((75 : Int).toNat * 1))) := ⟨_, rfl⟩; obtain ⟨c28, hc28⟩ : ∃ c1, c1 = co22 - (75 : Int).toNat := ⟨_, rfl⟩; have hy28 : y213.length = x6_2.length - (75 : Int).toNat := (by rw [Ny213.out, List.length_drop] <;> omega); rw [show (x6_2).drop (75 : Int).toNat = y213 from Ny213.out.symm] at hr28; replace hr28 : Kd.F (Kd.int .u8) _ _ A28 y213.length y213 := (by rw [hA28]; exact hr28); rw [← hy28, ← hA28, ← hc28] at hcut28; have HO217 := Aside0.mk (show Kd.V (Kd.int .u8) 5 _ w.heap.size _ (.slice A28 y213.length c28) y213 from Kd.V_mk (by rw [hy28, hc28]; exact Nat.sub_le_sub_right hroom28 _) hr28); have HC217 := Aside0.mk (show y213.length ≤ c28 from by rw [hy28, hc28]; exact Nat.sub_le_sub_right hroom28 _); clear hr28 hC28 hroom28 hi028 hsz28 hc28; have KY28 := Aside0.mk hy28; have KA28 := Aside0.mk hA28; clear hy28 hA28; replace q28 := eq_true q28))
                              go_roundg k2
                              case measure => have := HJ5.out; have := HK2.out; omega
                              case rel => exact ⟨(y213), (y210), H', ⟨by have := HJ5.out; have := HK2.out; omega⟩, ⟨by (with_reducible repeat (first | apply Kd.V_alloc | apply Kd.V_drewN | apply Kd.V_drew)); exact Kd.V_mono HO217.out (fun _ hk => ⟨hk.1.1, hk.2⟩)⟩, ⟨by (with_reducible repeat (first | apply Kd.R_alloc | apply Kd.R_drewN | apply Kd.R_drew)); exact Kd.R_mono HO212.out (fun _ hk => hk.1)⟩, ⟨by repeat (first | (with_reducible first | exact HB.out | apply below_alloc | apply pw_below_drewN | apply below_drew1 | refine below_set ?_ GE209.out) | exact HB.out)⟩⟩
                            · rw [if_neg c20] at H
                              exact absurd H (by simp)
                          · rw [if_neg c19] at H
                            have c19b0 : (t208 == 0) = false := beq_eq_false_iff_ne.mpr c19
                            have c19b1 : (t208 != 0) = true := bne_iff_ne.mpr c19
                            simp only [Option.some.injEq, Prod.mk.injEq] at H
                            obtain ⟨rfl, rfl⟩ := H
                            obtain ⟨Ao29, co29, eo29⟩ := Kd.V_slice HO_6.out
                            subst eo29
                            have q30 : (75 : Int) ≤ ((x6_2.length : Int) : Int) := of_decide_eq_true (by first | (with_reducible assumption) | assumption)
                            obtain ⟨i030, hi030, _, hsz30, _⟩ := info_parts info5
                            have hroom30 : x6_2.length ≤ co29 := (Kd.V_reads' HO_6.out).2.1
                            have hC30 : Kd.F (Kd.int .u8) _ _ Ao29 x6_2.length x6_2 := (Kd.V_at (base := w.heap.size) HO_6.out).2.2
                            have hcut30 := cut_to (P := Try.prog) 25 5 .i64 Try.underlying25 hi030 Ao29 x6_2.length co29 75 (by omega) q30 hroom30
                            have hr30 := Kd.F_take (m := 75) hC30 (by omega)
                            have hy30 : y195.length = (75 : Int).toNat := (by rw [Ny195.out, List.length_take]; omega)
                            rw [← Ny195.out] at hr30
                            rw [← hy30] at hcut30
                            have HO199 := Aside0.mk (show Kd.V (Kd.int .u8) 5 _ w.heap.size _ (.slice Ao29 y195.length co29) y195 from Kd.V_mk (by omega) hr30)
                            have HC199 := Aside0.mk (show y195.length ≤ co29 from by omega)
                            clear hr30 hC30 hroom30 hi030 hsz30
                            have KY30 := Aside0.mk hy30
                            clear hy30
                            replace q30 := eq_true q30
                            go_wp2_with (first | ((with_reducible refine gate_callee (f := 49) rfl ?_); refine goesL_ (some 51) rfl rfl Try.func49 (by kernel_rfl) rfl #[.slice Ao29 y195.length co29] rfl (by (try simp only [List.map_toArray, List.map_cons, List.map_nil]); first | done | rfl | (simp only [List.length_drop, List.length_take]; rfl)) ?_; (with_reducible refine (wire_get.calls k2 _ _ y195 t200 t201 t202 t203 t204 t205 t206 t207 t208 _ ?side1 ?side2 A18.out).mono ?_); (case side1 => repeat (first | exact (Kd.V_reads' HO199.out).2.2 | (with_reducible refine Kd.C_alloc ?_ _) | (with_reducible refine Kd.C_drewN ?_ _) | (with_reducible refine Kd.C_drew ?_))); (case side2 => exact (Kd.V_reads' HO199.out).2.1); rintro e w31 ⟨rfl, hb⟩; refine ⟨_, rfl, ?_⟩; have n0_ := Aside0.mk (Kd.V_below (by (with_reducible repeat (first | apply Kd.V_alloc | apply Kd.V_drewN | apply Kd.V_drew)); exact HO_6.out) hb); have n1_ := Aside0.mk (Kd.R_below (by (with_reducible repeat (first | apply Kd.R_alloc | apply Kd.R_drewN | apply Kd.R_drew)); exact HO_7.out) hb); have n2_ := Aside0.mk (Kd.V_below (by (with_reducible repeat (first | apply Kd.V_alloc | apply Kd.V_drewN | apply Kd.V_drew)); exact HO199.out) hb); have n3_ := Aside0.mk (below_step (by repeat (first | (with_reducible first | exact HB.out | apply below_alloc | apply pw_below_drewN | apply below_drew1) | exact HB.out)) hb); clear HO_6; clear HO_7; clear HO199; clear HB; have HO_6 := n0_; have HO_7 := n1_; have HO199 := n2_; have HB := n3_; clear n0_ n1_ n2_ n3_; (try clear hb); (try clear hb2); (try clear hk); (try clear hi)) | ((with_reducible refine gate_dst (N := 8) rfl ?_); refine box_event ?hg (N := 8) ?hd (cs := #[.int .u64 0, .int .u64 0, .int .u64 0, .int .u8 0, .string (⟨#[]⟩ : ByteArray), .string (⟨#[]⟩ : ByteArray), .int .i64 0, .int .i64 0]) (t := 77) ?hr ?_; (case hd => rfl); (case hg => rfl); (case hr => first | (go_simp; done) | (go_simp; rfl)); intro gb209 hg w32 hbox hb; have n0_ := Aside0.mk (Kd.V_below (Kd.V_elderB (by (with_reducible repeat (first | apply Kd.V_alloc | apply Kd.V_drewN | apply Kd.V_drew)); exact HO_6.out) gb209 (Nat.le_of_eq hg.symm)) hb); have n1_ := Aside0.mk (Kd.R_below (Kd.R_elderB (by (with_reducible repeat (first | apply Kd.R_alloc | apply Kd.R_drewN | apply Kd.R_drew)); exact HO_7.out) gb209 (Nat.le_of_eq hg.symm)) hb); have n2_ := Aside0.mk (Kd.V_below (Kd.V_elderB (by (with_reducible repeat (first | apply Kd.V_alloc | apply Kd.V_drewN | apply Kd.V_drew)); exact HO199.out) gb209 (Nat.le_of_eq hg.symm)) hb); have n3_ := Aside0.mk (below_step (by repeat (first | (with_reducible first | exact HB.out | apply below_alloc | apply pw_below_drewN | apply below_drew1) | exact HB.out)) hb); have n4_ := Aside0.mk (hbox); have n5_ := Aside0.mk ((by rw [hg]; exact (below_size (by repeat (first | (with_reducible first | exact HB.out | apply below_alloc | apply pw_below_drewN | apply below_drew1) | exact HB.out))) : w.heap.size ≤ gb209)); have n6_ := Aside0.mk ((by rw [hg]; exact (below_size (by repeat (first | (with_reducible first | exact HB.out | apply below_alloc | apply pw_below_drewN | apply below_drew1) | exact HB.out))) : w.heap.size ≤ gb209)); clear HO_6; clear HO_7; clear HO199; clear HB; have HO_6 := n0_; have HO_7 := n1_; have HO199 := n2_; have HB := n3_; have BK209 := n4_; have GW209 := n5_; have GE209 := n6_; clear n0_ n1_ n2_ n3_ n4_ n5_ n6_; clear hb hbox hg; have hcz33_0 : w32.cell? ⟨gb209, 0, none⟩ = some (.int .u64 0) := (blk_cell BK209.out 0).trans rfl; have hcz33_1 : w32.cell? ⟨gb209, 1, none⟩ = some (.int .u64 0) := (blk_cell BK209.out 1).trans rfl; have hcz33_2 : w32.cell? ⟨gb209, 2, none⟩ = some (.int .u64 0) := (blk_cell BK209.out 2).trans rfl; have hcz33_3 : w32.cell? ⟨gb209, 3, none⟩ = some (.int .u8 0) := (blk_cell BK209.out 3).trans rfl; have hcz33_4 : w32.cell? ⟨gb209, 4, none⟩ = some (.string (⟨#[]⟩ : ByteArray)) := (blk_cell BK209.out 4).trans rfl; have hcz33_5 : w32.cell? ⟨gb209, 5, none⟩ = some (.string (⟨#[]⟩ : ByteArray)) := (blk_cell BK209.out 5).trans rfl; have hcz33_6 : w32.cell? ⟨gb209, 6, none⟩ = some (.int .i64 0) := (blk_cell BK209.out 6).trans rfl; have hcz33_7 : w32.cell? ⟨gb209, 7, none⟩ = some (.int .i64 0) := (blk_cell BK209.out 7).trans rfl; have hfz33_0 := blk_frozen BK209.out 0; have hfz33_1 := blk_frozen BK209.out 1; have hfz33_2 := blk_frozen BK209.out 2; have hfz33_3 := blk_frozen BK209.out 3; have hfz33_4 := blk_frozen BK209.out 4; have hfz33_5 := blk_frozen BK209.out 5; have hfz33_6 := blk_frozen BK209.out 6; have hfz33_7 := blk_frozen BK209.out 7))
                            go_ret2
                            exact ⟨_, by first | rfl | (simp [errW_none, errW_some] <;> rfl) | (simp [*, errW_none, errW_some] <;> rfl), by first | exact Kd.R_nil _ _ _ _ _ | exact Kd.N_nil _ _ _ _ _ | exact Kd.V_nil _ _ _ _ _ | exact Kd.Q_nil _ _ _ _ _ | exact Kd.S_nil _ _ _ _ _, by repeat (first | (with_reducible first | exact HB.out | apply below_alloc | apply pw_below_drewN | apply below_drew1 | refine below_set ?_ GE209.out) | exact HB.out)⟩
                        · rw [if_neg c17] at H
                          exact absurd H (by simp)
                      · rw [if_neg c16] at H
                        have c16b0 : decide (0 < (x6_2.length : Int)) = false := decide_eq_false c16
                        have c16b1 : decide (0 < x6_2.length) = false := decide_eq_false (by omega)
                        clear c16
                        simp only [Option.some.injEq, Prod.mk.injEq] at H
                        obtain ⟨rfl, rfl⟩ := H
                        obtain ⟨Ao34, co34, eo34⟩ := Kd.V_slice HO_6.out
                        subst eo34
                        go_wp2
                        go_ret2
                        exact ⟨_, by first | rfl | (simp [errW_none, errW_some] <;> rfl) | (simp [*, errW_none, errW_some] <;> rfl), by (with_reducible repeat (first | apply Kd.R_alloc | apply Kd.R_drewN | apply Kd.R_drew)); exact HO_7.out, by repeat (first | (with_reducible first | exact HB.out | apply below_alloc | apply pw_below_drewN | apply below_drew1) | exact HB.out)⟩
      · rw [if_neg c5] at H
        exact absurd H (by simp)
    · rw [if_neg c4] at H
      exact absurd H (by simp)
def segment_head_may.f (a0_0 : Int) (a0_1 : Int) : Option (Bool) := if a0_1 ≥ 1 then (some (decide (a0_1 ≤ 16))) else (some false)
set_option maxHeartbeats 8000000 in
set_option maxRecDepth 100000 in
theorem segment_head_may.calls (a0_0 : Int) (a0_1 : Int) (r : Bool) (w : World) (h : segment_head_may.f a0_0 a0_1 = some r) :
    Calls Try.prog 52 #[.agg #[.int .u32 a0_0, .int .i64 a0_1]] w fun e w' => e = .returned (.bool r) ∧ Below w.heap.size w w' := by
  have hu99 := Try.underlying99
  have HB := Aside0.mk (Below.refl w.heap.size w)
  have H : (if a0_1 ≥ 1 then (some (decide (a0_1 ≤ 16))) else (some false)) = some r := h
  clear h
  by_cases c2 : a0_1 ≥ 1
  · rw [if_pos c2] at H
    have c2b0 : decide (1 ≤ a0_1) = true := decide_eq_true c2
    clear c2
    obtain rfl := Option.some.inj H
    go_enter Try.func52, Try.ntmps52
    go_wp2_with (first | ((with_reducible refine gate_dst (N := 1) rfl ?_); refine box_event ?hg (N := 1) ?hd (cs := #[.int .u32 a0_0, .int .i64 a0_1]) (t := 99) ?hr ?_; (case hd => rfl); (case hg => rfl); (case hr => first | (go_simp; done) | (go_simp; rfl)); intro gb218 hg w3 hbox hb; have n0_ := Aside0.mk (below_step (by repeat (first | (with_reducible first | exact HB.out | apply below_alloc | apply pw_below_drewN | apply below_drew1) | exact HB.out)) hb); have n1_ := Aside0.mk (hbox); have n2_ := Aside0.mk ((by rw [hg]; exact (below_size (by repeat (first | (with_reducible first | exact HB.out | apply below_alloc | apply pw_below_drewN | apply below_drew1) | exact HB.out))) : w.heap.size ≤ gb218)); have n3_ := Aside0.mk ((by rw [hg]; exact (below_size (by repeat (first | (with_reducible first | exact HB.out | apply below_alloc | apply pw_below_drewN | apply below_drew1) | exact HB.out))) : w.heap.size ≤ gb218)); clear HB; have HB := n0_; have BK218 := n1_; have GW218 := n2_; have GE218 := n3_; clear n0_ n1_ n2_ n3_; clear hb hbox hg; have hcz4_0 : w3.cell? ⟨gb218, 0, none⟩ = some (.int .u32 a0_0) := (blk_cell BK218.out 0).trans rfl; have hcz4_1 : w3.cell? ⟨gb218, 1, none⟩ = some (.int .i64 a0_1) := (blk_cell BK218.out 1).trans rfl; have hfz4_0 := blk_frozen BK218.out 0; have hfz4_1 := blk_frozen BK218.out 1))
    go_ret
    exact ⟨by first | rfl | (simp [errW_none, errW_some] <;> rfl) | (simp [*, errW_none, errW_some] <;> rfl), by repeat (first | (with_reducible first | exact HB.out | apply below_alloc | apply pw_below_drewN | apply below_drew1 | refine below_set ?_ GE218.out) | exact HB.out)⟩
  · rw [if_neg c2] at H
    have c2b0 : decide (1 ≤ a0_1) = false := decide_eq_false c2
    clear c2
    obtain rfl := Option.some.inj H
    go_enter Try.func52, Try.ntmps52
    go_wp2_with (first | ((with_reducible refine gate_dst (N := 1) rfl ?_); refine box_event ?hg (N := 1) ?hd (cs := #[.int .u32 a0_0, .int .i64 a0_1]) (t := 99) ?hr ?_; (case hd => rfl); (case hg => rfl); (case hr => first | (go_simp; done) | (go_simp; rfl)); intro gb218 hg w5 hbox hb; have n0_ := Aside0.mk (below_step (by repeat (first | (with_reducible first | exact HB.out | apply below_alloc | apply pw_below_drewN | apply below_drew1) | exact HB.out)) hb); have n1_ := Aside0.mk (hbox); have n2_ := Aside0.mk ((by rw [hg]; exact (below_size (by repeat (first | (with_reducible first | exact HB.out | apply below_alloc | apply pw_below_drewN | apply below_drew1) | exact HB.out))) : w.heap.size ≤ gb218)); have n3_ := Aside0.mk ((by rw [hg]; exact (below_size (by repeat (first | (with_reducible first | exact HB.out | apply below_alloc | apply pw_below_drewN | apply below_drew1) | exact HB.out))) : w.heap.size ≤ gb218)); clear HB; have HB := n0_; have BK218 := n1_; have GW218 := n2_; have GE218 := n3_; clear n0_ n1_ n2_ n3_; clear hb hbox hg; have hcz6_0 : w5.cell? ⟨gb218, 0, none⟩ = some (.int .u32 a0_0) := (blk_cell BK218.out 0).trans rfl; have hcz6_1 : w5.cell? ⟨gb218, 1, none⟩ = some (.int .i64 a0_1) := (blk_cell BK218.out 1).trans rfl; have hfz6_0 := blk_frozen BK218.out 0; have hfz6_1 := blk_frozen BK218.out 1))
    go_ret
    exact ⟨by first | rfl | (simp [errW_none, errW_some] <;> rfl) | (simp [*, errW_none, errW_some] <;> rfl), by repeat (first | (with_reducible first | exact HB.out | apply below_alloc | apply pw_below_drewN | apply below_drew1 | refine below_set ?_ GE218.out) | exact HB.out)⟩
def segment_Head.f (a0 : Int) (a1 : Int) : Option (List Int × Int) := (segment_head_may.f a0 a1).bind fun t220 => (if t220 = true then ((pack_Put.f (([83, 69, 71, 49] : List Int)) (IntKind.u64.wrap (a0)) 4).bind fun t224 => ((pack_Put.f t224 (IntKind.u64.wrap (a1)) 2).bind fun t227 => ((check_Sum.f t227).bind fun t230 => ((pack_Put.f t227 (IntKind.u64.wrap (t230)) 4).bind fun t231 => (some (t231, 0)))))) else (some (([] : List Int), 1)))
set_option maxHeartbeats 8000000 in
set_option maxRecDepth 100000 in
theorem segment_Head.calls (a0 : Int) (a1 : Int) (r1 : List Int) (r2 : Int) (w : World) (h : segment_Head.f a0 a1 = some (r1, r2)) :
    Calls Try.prog 31 #[.int .u32 a0, .int .i64 a1] w fun e w' => ∃ v0_ : Value, e = .returned (.tuple #[v0_, .int .i64 r2]) ∧ Kd.R (Kd.int .u8) 5 w' w.heap.size (fun _ => True) v0_ r1 ∧ Below w.heap.size w w' := by
  have hu99 := Try.underlying99
  have HB := Aside0.mk (Below.refl w.heap.size w)
  have H : ((segment_head_may.f a0 a1).bind fun t220 => (if t220 = true then ((pack_Put.f (([83, 69, 71, 49] : List Int)) (IntKind.u64.wrap (a0)) 4).bind fun t224 => ((pack_Put.f t224 (IntKind.u64.wrap (a1)) 2).bind fun t227 => ((check_Sum.f t227).bind fun t230 => ((pack_Put.f t227 (IntKind.u64.wrap (t230)) 4).bind fun t231 => (some (t231, 0)))))) else (some (([] : List Int), 1)))) = some (r1, r2) := h
  clear h
  replace H := Option.bind_eq_some_iff.mp H
  obtain ⟨t220, A30, H⟩ := H
  replace H : (if t220 = true then ((pack_Put.f (([83, 69, 71, 49] : List Int)) (IntKind.u64.wrap (a0)) 4).bind fun t224 => ((pack_Put.f t224 (IntKind.u64.wrap (a1)) 2).bind fun t227 => ((check_Sum.f t227).bind fun t230 => ((pack_Put.f t227 (IntKind.u64.wrap (t230)) 4).bind fun t231 => (some (t231, 0)))))) else (some (([] : List Int), 1))) = some (r1, r2) := H
  have A3 := Aside0.mk A30
  clear A30
  by_cases c4 : t220 = true
  · subst c4
    have H1 : ((pack_Put.f (([83, 69, 71, 49] : List Int)) (IntKind.u64.wrap (a0)) 4).bind fun t224 => ((pack_Put.f t224 (IntKind.u64.wrap (a1)) 2).bind fun t227 => ((check_Sum.f t227).bind fun t230 => ((pack_Put.f t227 (IntKind.u64.wrap (t230)) 4).bind fun t231 => (some (t231, 0)))))) = some (r1, r2) := by rw [if_pos rfl] at H; exact H
    clear H
    have H := H1
    clear H1
    obtain ⟨y221, hy221⟩ : ∃ y_ : List Int, y_ = (([83, 69, 71, 49] : List Int)) := ⟨_, rfl⟩
    replace H : ((pack_Put.f y221 (IntKind.u64.wrap (a0)) 4).bind fun t224 => ((pack_Put.f t224 (IntKind.u64.wrap (a1)) 2).bind fun t227 => ((check_Sum.f t227).bind fun t230 => ((pack_Put.f t227 (IntKind.u64.wrap (t230)) 4).bind fun t231 => (some (t231, 0)))))) = some (r1, r2) := by first | (rw [hy221]; with_reducible exact H) | (have H2_ := (Option.bind_some _ _).symm.trans H; rw [hy221]; with_reducible exact H2_) | (have H2_ := (Option.bind_some _ _).symm.trans H; with_reducible exact H2_) | with_reducible exact H | (rw [hy221]; exact H) | exact H
    have Ny221 := Aside0.mk hy221
    clear hy221
    replace H := Option.bind_eq_some_iff.mp H
    obtain ⟨t224, A50, H⟩ := H
    replace H : ((pack_Put.f t224 (IntKind.u64.wrap (a1)) 2).bind fun t227 => ((check_Sum.f t227).bind fun t230 => ((pack_Put.f t227 (IntKind.u64.wrap (t230)) 4).bind fun t231 => (some (t231, 0))))) = some (r1, r2) := H
    have A5 := Aside0.mk A50
    clear A50
    replace H := Option.bind_eq_some_iff.mp H
    obtain ⟨t227, A60, H⟩ := H
    replace H : ((check_Sum.f t227).bind fun t230 => ((pack_Put.f t227 (IntKind.u64.wrap (t230)) 4).bind fun t231 => (some (t231, 0)))) = some (r1, r2) := H
    have A6 := Aside0.mk A60
    clear A60
    replace H := Option.bind_eq_some_iff.mp H
    obtain ⟨t230, A70, H⟩ := H
    replace H : ((pack_Put.f t227 (IntKind.u64.wrap (t230)) 4).bind fun t231 => (some (t231, 0))) = some (r1, r2) := H
    have A7 := Aside0.mk A70
    clear A70
    replace H := Option.bind_eq_some_iff.mp H
    obtain ⟨t231, A80, H⟩ := H
    replace H : (some (t231, 0)) = some (r1, r2) := H
    have A8 := Aside0.mk A80
    clear A80
    simp only [Option.some.injEq, Prod.mk.injEq] at H
    obtain ⟨rfl, rfl⟩ := H
    go_enter Try.func31, Try.ntmps31
    go_wp2_with (first | ((with_reducible refine gate_dst (N := 6) rfl ?_); refine box_event ?hg (N := 6) ?hd (cs := #[.int .u32 0, .int .i64 0]) (t := 99) ?hr ?_; (case hd => rfl); (case hg => rfl); (case hr => first | (go_simp; done) | (go_simp; rfl)); intro gb219 hg w9 hbox hb; have n0_ := Aside0.mk (below_step (by repeat (first | (with_reducible first | exact HB.out | apply below_alloc | apply pw_below_drewN | apply below_drew1) | exact HB.out)) hb); have n1_ := Aside0.mk (hbox); have n2_ := Aside0.mk ((by rw [hg]; exact (below_size (by repeat (first | (with_reducible first | exact HB.out | apply below_alloc | apply pw_below_drewN | apply below_drew1) | exact HB.out))) : w.heap.size ≤ gb219)); have n3_ := Aside0.mk ((by rw [hg]; exact (below_size (by repeat (first | (with_reducible first | exact HB.out | apply below_alloc | apply pw_below_drewN | apply below_drew1) | exact HB.out))) : w.heap.size ≤ gb219)); clear HB; have HB := n0_; have BK219 := n1_; have GW219 := n2_; have GE219 := n3_; clear n0_ n1_ n2_ n3_; clear hb hbox hg; have hcz10_0 : w9.cell? ⟨gb219, 0, none⟩ = some (.int .u32 0) := (blk_cell BK219.out 0).trans rfl; have hcz10_1 : w9.cell? ⟨gb219, 1, none⟩ = some (.int .i64 0) := (blk_cell BK219.out 1).trans rfl; have hfz10_0 := blk_frozen BK219.out 0; have hfz10_1 := blk_frozen BK219.out 1) | ((with_reducible refine gate_callee (f := 52) rfl ?_); refine goesL_ (some 12) rfl rfl Try.func52 (by kernel_rfl) rfl #[.agg #[.int .u32 a0, .int .i64 a1]] rfl (by (try simp only [List.map_toArray, List.map_cons, List.map_nil]); first | done | rfl | (simp only [List.length_drop, List.length_take]; rfl) | (rw [Go.Proofs.Ytdpodjgggicaoaa.H.u64_id _ (by simp only [decide_eq_false_iff_not, decide_eq_true_eq, Nat.not_lt, Int.not_lt] at *; omega) (by simp only [decide_eq_false_iff_not, decide_eq_true_eq, Nat.not_lt, Int.not_lt] at *; omega)]; rfl)) ?_; (with_reducible refine (segment_head_may.calls a0 a1 true _ A3.out).mono ?_); rintro e w11 ⟨rfl, hb⟩; refine ⟨_, rfl, ?_⟩; have n0_ := Aside0.mk (blk_below (g := gb219) (o := .cells #[.int .u32 a0, .int .i64 a1] 99 (0, 0)) (by (with_reducible repeat (first | refine blk_drewN ?_ _ | refine blk_drew ?_ | refine blk_alloc ?_ _)); refine blk_put (cs := #[.int .u32 a0, .int .i64 0]) ?_ 1 _ rfl; (with_reducible repeat (first | refine blk_drewN ?_ _ | refine blk_drew ?_ | refine blk_alloc ?_ _)); refine blk_put (cs := #[.int .u32 0, .int .i64 0]) ?_ 0 _ rfl; (with_reducible repeat (first | refine blk_drewN ?_ _ | refine blk_drew ?_ | refine blk_alloc ?_ _)); exact BK219.out) hb); have n1_ := Aside0.mk (below_step (by repeat (first | (with_reducible first | exact HB.out | apply below_alloc | apply pw_below_drewN | apply below_drew1 | refine below_set ?_ GE219.out) | exact HB.out)) hb); clear BK219; clear HB; have BK219 := n0_; have HB := n1_; clear n0_ n1_; (try clear hb); (try clear hb2); (try clear hk); (try clear hi)) | ((with_reducible refine gate_dst (N := 14) rfl ?_); refine Go.Proofs.Ytdpodjgggicaoaa.H.lit_conv 5 25 ?hg (N1 := 14) ?hd rfl rfl Try.underlying25 Try.underlying5 (xs := ([83, 69, 71, 49] : List Int)) (C := ([.int .u8 83, .int .u8 69, .int .u8 71, .int .u8 49] : List Value).toArray) ?hN ?hr ?hC ?hl ?_; (case hd => rfl); (case hg => rfl); (case hN => first | decide | (simp; done)); (case hr => first | (go_simp; done) | (go_simp; rfl)); (case hC => rfl); (case hl => decide); intro v222 w12 ho13 hb; rw [← Ny221.out] at ho13; have n0_ := Aside0.mk ho13; have n1_ := Aside0.mk (blk_below (g := gb219) (o := .cells #[.int .u32 a0, .int .i64 a1] 99 (0, 0)) (by (with_reducible repeat (first | refine blk_drewN ?_ _ | refine blk_drew ?_ | refine blk_alloc ?_ _)); exact BK219.out) hb); have n2_ := Aside0.mk (below_step (by repeat (first | (with_reducible first | exact HB.out | apply below_alloc | apply pw_below_drewN | apply below_drew1 | refine below_set ?_ GE219.out) | exact HB.out)) hb); clear BK219; clear HB; have HO223 := n0_; have BK219 := n1_; have HB := n2_; clear n0_ n1_ n2_; clear hb ho13; obtain ⟨Ao14, co14, eo14⟩ := Go.Proofs.Ytdpodjgggicaoaa.H.litF_slice HO223.out; subst eo14) | ((with_reducible refine gate_callee (f := 37) rfl ?_); refine goesL_ (some 18) rfl rfl Try.func37 (by kernel_rfl) rfl #[.slice Ao14 y221.length co14, .int .u64 (IntKind.u64.wrap (a0)), .int .i64 4] rfl (by (try simp only [List.map_toArray, List.map_cons, List.map_nil]); first | done | rfl | (simp only [List.length_drop, List.length_take]; rfl) | (rw [Go.Proofs.Ytdpodjgggicaoaa.H.u64_id _ (by simp only [decide_eq_false_iff_not, decide_eq_true_eq, Nat.not_lt, Int.not_lt] at *; omega) (by simp only [decide_eq_false_iff_not, decide_eq_true_eq, Nat.not_lt, Int.not_lt] at *; omega)]; rfl)) ?_; (with_reducible refine (pack_Put.calls _ _ y221 (IntKind.u64.wrap (a0)) 4 t224 _ ?side1 ?side2 A5.out).mono ?_); (case side1 => repeat (first | exact (Go.Proofs.Ytdpodjgggicaoaa.H.litF_reads' HO223.out).2.2 | (with_reducible refine Kd.C_alloc ?_ _) | (with_reducible refine Kd.C_drewN ?_ _) | (with_reducible refine Kd.C_drew ?_))); (case side2 => exact (Go.Proofs.Ytdpodjgggicaoaa.H.litF_reads' HO223.out).2.1); rintro e w15 ⟨v225, rfl, ho0, hb⟩; refine ⟨_, rfl, ?_⟩; have n0_ := Aside0.mk (Go.Proofs.Ytdpodjgggicaoaa.H.litF_below (by (with_reducible repeat (first | apply Go.Proofs.Ytdpodjgggicaoaa.H.litF_alloc | apply Go.Proofs.Ytdpodjgggicaoaa.H.litF_drewN | apply Go.Proofs.Ytdpodjgggicaoaa.H.litF_drew)); exact HO223.out) hb); have n1_ := Aside0.mk (Kd.R_lower (Kd.R_new' ho0 (Go.Proofs.Ytdpodjgggicaoaa.H.litF_lt (by (with_reducible repeat (first | apply Go.Proofs.Ytdpodjgggicaoaa.H.litF_alloc | apply Go.Proofs.Ytdpodjgggicaoaa.H.litF_drewN | apply Go.Proofs.Ytdpodjgggicaoaa.H.litF_drew)); exact HO223.out))) (below_size (by repeat (first | (with_reducible first | exact HB.out | apply below_alloc | apply pw_below_drewN | apply below_drew1 | refine below_set ?_ GE219.out) | exact HB.out)))); have n2_ := Aside0.mk (blk_below (g := gb219) (o := .cells #[.int .u32 a0, .int .i64 a1] 99 (0, 0)) (by (with_reducible repeat (first | refine blk_drewN ?_ _ | refine blk_drew ?_ | refine blk_alloc ?_ _)); exact BK219.out) hb); have n3_ := Aside0.mk (below_step (by repeat (first | (with_reducible first | exact HB.out | apply below_alloc | apply pw_below_drewN | apply below_drew1 | refine below_set ?_ GE219.out) | exact HB.out)) hb); clear HO223; clear BK219; clear HB; have HO223 := n0_; have HO226 := n1_; have BK219 := n2_; have HB := n3_; clear n0_ n1_ n2_ n3_; (try clear hb); (try clear hb2); (try clear hk); (try clear hi); (try clear ho0); obtain ⟨Ao16, co16, eo16⟩ := Kd.R_slice HO226.out; subst eo16) | ((with_reducible refine gate_callee (f := 37) rfl ?_); refine goesL_ (some 21) rfl rfl Try.func37 (by kernel_rfl) rfl #[.slice Ao16 t224.length co16, .int .u64 (IntKind.u64.wrap (a1)), .int .i64 2] rfl (by (try simp only [List.map_toArray, List.map_cons, List.map_nil]); first | done | rfl | (simp only [List.length_drop, List.length_take]; rfl) | (rw [Go.Proofs.Ytdpodjgggicaoaa.H.u64_id _ (by simp only [decide_eq_false_iff_not, decide_eq_true_eq, Nat.not_lt, Int.not_lt] at *; omega) (by simp only [decide_eq_false_iff_not, decide_eq_true_eq, Nat.not_lt, Int.not_lt] at *; omega)]; rfl)) ?_; (with_reducible refine (pack_Put.calls _ _ t224 (IntKind.u64.wrap (a1)) 2 t227 _ ?side1 ?side2 A6.out).mono ?_); (case side1 => repeat (first | exact (Kd.R_reads' HO226.out).2.2 | (with_reducible refine Kd.C_alloc ?_ _) | (with_reducible refine Kd.C_drewN ?_ _) | (with_reducible refine Kd.C_drew ?_))); (case side2 => exact (Kd.R_reads' HO226.out).2.1); rintro e w17 ⟨v228, rfl, ho0, hb⟩; refine ⟨_, rfl, ?_⟩; have n0_ := Aside0.mk (Go.Proofs.Ytdpodjgggicaoaa.H.litF_below (by (with_reducible repeat (first | apply Go.Proofs.Ytdpodjgggicaoaa.H.litF_alloc | apply Go.Proofs.Ytdpodjgggicaoaa.H.litF_drewN | apply Go.Proofs.Ytdpodjgggicaoaa.H.litF_drew)); exact HO223.out) hb); have n1_ := Aside0.mk (Kd.R_elder' (by (with_reducible repeat (first | apply Kd.R_alloc | apply Kd.R_drewN | apply Kd.R_drew)); exact HO226.out) (Kd.R_base ho0) hb); have n2_ := Aside0.mk (Kd.R_lower (Kd.R_new' (Kd.R_new' ho0 (Go.Proofs.Ytdpodjgggicaoaa.H.litF_lt (by (with_reducible repeat (first | apply Go.Proofs.Ytdpodjgggicaoaa.H.litF_alloc | apply Go.Proofs.Ytdpodjgggicaoaa.H.litF_drewN | apply Go.Proofs.Ytdpodjgggicaoaa.H.litF_drew)); exact HO223.out))) (Kd.R_lt (by (with_reducible repeat (first | apply Kd.R_alloc | apply Kd.R_drewN | apply Kd.R_drew)); exact HO226.out))) (below_size (by repeat (first | (with_reducible first | exact HB.out | apply below_alloc | apply pw_below_drewN | apply below_drew1 | refine below_set ?_ GE219.out) | exact HB.out)))); have n3_ := Aside0.mk (blk_below (g := gb219) (o := .cells #[.int .u32 a0, .int .i64 a1] 99 (0, 0)) (by (with_reducible repeat (first | refine blk_drewN ?_ _ | refine blk_drew ?_ | refine blk_alloc ?_ _)); exact BK219.out) hb); have n4_ := Aside0.mk (below_step (by repeat (first | (with_reducible first | exact HB.out | apply below_alloc | apply pw_below_drewN | apply below_drew1 | refine below_set ?_ GE219.out) | exact HB.out)) hb); clear HO223; clear HO226; clear BK219; clear HB; have HO223 := n0_; have HO226 := n1_; have HO229 := n2_; have BK219 := n3_; have HB := n4_; clear n0_ n1_ n2_ n3_ n4_; (try clear hb); (try clear hb2); (try clear hk); (try clear hi); (try clear ho0); obtain ⟨Ao18, co18, eo18⟩ := Kd.R_slice HO229.out; subst eo18) | ((with_reducible refine gate_callee (f := 53) rfl ?_); refine goesL_ (some 24) rfl rfl Try.func53 (by kernel_rfl) rfl #[.slice Ao18 t227.length co18] rfl (by (try simp only [List.map_toArray, List.map_cons, List.map_nil]); first | done | rfl | (simp only [List.length_drop, List.length_take]; rfl) | (rw [Go.Proofs.Ytdpodjgggicaoaa.H.u64_id _ (by simp only [decide_eq_false_iff_not, decide_eq_true_eq, Nat.not_lt, Int.not_lt] at *; omega) (by simp only [decide_eq_false_iff_not, decide_eq_true_eq, Nat.not_lt, Int.not_lt] at *; omega)]; rfl)) ?_; (with_reducible refine (check_Sum.calls _ _ t227 t230 _ ?side1 ?side2 A7.out).mono ?_); (case side1 => repeat (first | exact (Kd.R_reads' HO229.out).2.2 | (with_reducible refine Kd.C_alloc ?_ _) | (with_reducible refine Kd.C_drewN ?_ _) | (with_reducible refine Kd.C_drew ?_))); (case side2 => exact (Kd.R_reads' HO229.out).2.1); rintro e w19 ⟨rfl, hb⟩; refine ⟨_, rfl, ?_⟩; have n0_ := Aside0.mk (Go.Proofs.Ytdpodjgggicaoaa.H.litF_below (by (with_reducible repeat (first | apply Go.Proofs.Ytdpodjgggicaoaa.H.litF_alloc | apply Go.Proofs.Ytdpodjgggicaoaa.H.litF_drewN | apply Go.Proofs.Ytdpodjgggicaoaa.H.litF_drew)); exact HO223.out) hb); have n1_ := Aside0.mk (Kd.R_below (by (with_reducible repeat (first | apply Kd.R_alloc | apply Kd.R_drewN | apply Kd.R_drew)); exact HO226.out) hb); have n2_ := Aside0.mk (Kd.R_below (by (with_reducible repeat (first | apply Kd.R_alloc | apply Kd.R_drewN | apply Kd.R_drew)); exact HO229.out) hb); have n3_ := Aside0.mk (blk_below (g := gb219) (o := .cells #[.int .u32 a0, .int .i64 a1] 99 (0, 0)) (by (with_reducible repeat (first | refine blk_drewN ?_ _ | refine blk_drew ?_ | refine blk_alloc ?_ _)); exact BK219.out) hb); have n4_ := Aside0.mk (below_step (by repeat (first | (with_reducible first | exact HB.out | apply below_alloc | apply pw_below_drewN | apply below_drew1 | refine below_set ?_ GE219.out) | exact HB.out)) hb); clear HO223; clear HO226; clear HO229; clear BK219; clear HB; have HO223 := n0_; have HO226 := n1_; have HO229 := n2_; have BK219 := n3_; have HB := n4_; clear n0_ n1_ n2_ n3_ n4_; (try clear hb); (try clear hb2); (try clear hk); (try clear hi)) | ((with_reducible refine gate_callee (f := 37) rfl ?_); refine goesL_ (some 26) rfl rfl Try.func37 (by kernel_rfl) rfl #[.slice Ao18 t227.length co18, .int .u64 (IntKind.u64.wrap (t230)), .int .i64 4] rfl (by (try simp only [List.map_toArray, List.map_cons, List.map_nil]); first | done | rfl | (simp only [List.length_drop, List.length_take]; rfl) | (rw [Go.Proofs.Ytdpodjgggicaoaa.H.u64_id _ (by simp only [decide_eq_false_iff_not, decide_eq_true_eq, Nat.not_lt, Int.not_lt] at *; omega) (by simp only [decide_eq_false_iff_not, decide_eq_true_eq, Nat.not_lt, Int.not_lt] at *; omega)]; rfl)) ?_; (with_reducible refine (pack_Put.calls _ _ t227 (IntKind.u64.wrap (t230)) 4 t231 _ ?side1 ?side2 A8.out).mono ?_); (case side1 => repeat (first | exact (Kd.R_reads' HO229.out).2.2 | (with_reducible refine Kd.C_alloc ?_ _) | (with_reducible refine Kd.C_drewN ?_ _) | (with_reducible refine Kd.C_drew ?_))); (case side2 => exact (Kd.R_reads' HO229.out).2.1); rintro e w20 ⟨v232, rfl, ho0, hb⟩; refine ⟨_, rfl, ?_⟩; have n0_ := Aside0.mk (Go.Proofs.Ytdpodjgggicaoaa.H.litF_below (by (with_reducible repeat (first | apply Go.Proofs.Ytdpodjgggicaoaa.H.litF_alloc | apply Go.Proofs.Ytdpodjgggicaoaa.H.litF_drewN | apply Go.Proofs.Ytdpodjgggicaoaa.H.litF_drew)); exact HO223.out) hb); have n1_ := Aside0.mk (Kd.R_elder' (by (with_reducible repeat (first | apply Kd.R_alloc | apply Kd.R_drewN | apply Kd.R_drew)); exact HO226.out) (Kd.R_base ho0) hb); have n2_ := Aside0.mk (Kd.R_elder' (by (with_reducible repeat (first | apply Kd.R_alloc | apply Kd.R_drewN | apply Kd.R_drew)); exact HO229.out) (Kd.R_base ho0) hb); have n3_ := Aside0.mk (Kd.R_lower (Kd.R_new' (Kd.R_new' (Kd.R_new' ho0 (Go.Proofs.Ytdpodjgggicaoaa.H.litF_lt (by (with_reducible repeat (first | apply Go.Proofs.Ytdpodjgggicaoaa.H.litF_alloc | apply Go.Proofs.Ytdpodjgggicaoaa.H.litF_drewN | apply Go.Proofs.Ytdpodjgggicaoaa.H.litF_drew)); exact HO223.out))) (Kd.R_lt (by (with_reducible repeat (first | apply Kd.R_alloc | apply Kd.R_drewN | apply Kd.R_drew)); exact HO226.out))) (Kd.R_lt (by (with_reducible repeat (first | apply Kd.R_alloc | apply Kd.R_drewN | apply Kd.R_drew)); exact HO229.out))) (below_size (by repeat (first | (with_reducible first | exact HB.out | apply below_alloc | apply pw_below_drewN | apply below_drew1 | refine below_set ?_ GE219.out) | exact HB.out)))); have n4_ := Aside0.mk (blk_below (g := gb219) (o := .cells #[.int .u32 a0, .int .i64 a1] 99 (0, 0)) (by (with_reducible repeat (first | refine blk_drewN ?_ _ | refine blk_drew ?_ | refine blk_alloc ?_ _)); exact BK219.out) hb); have n5_ := Aside0.mk (below_step (by repeat (first | (with_reducible first | exact HB.out | apply below_alloc | apply pw_below_drewN | apply below_drew1 | refine below_set ?_ GE219.out) | exact HB.out)) hb); clear HO223; clear HO226; clear HO229; clear BK219; clear HB; have HO223 := n0_; have HO226 := n1_; have HO229 := n2_; have HO233 := n3_; have BK219 := n4_; have HB := n5_; clear n0_ n1_ n2_ n3_ n4_ n5_; (try clear hb); (try clear hb2); (try clear hk); (try clear hi); (try clear ho0)))
    go_ret2
    exact ⟨_, by first | rfl | (simp [errW_none, errW_some] <;> rfl) | (simp [*, errW_none, errW_some] <;> rfl), by (with_reducible repeat (first | apply Kd.R_alloc | apply Kd.R_drewN | apply Kd.R_drew)); exact Kd.R_mono HO233.out (fun _ hk => trivial), by repeat (first | (with_reducible first | exact HB.out | apply below_alloc | apply pw_below_drewN | apply below_drew1 | refine below_set ?_ GE219.out) | exact HB.out)⟩
  · replace c4 := Bool.eq_false_iff.mpr c4
    subst c4
    have H1 : (some (([] : List Int), 1)) = some (r1, r2) := by rw [if_neg (show ¬ (false = true) by decide)] at H; exact H
    clear H
    have H := H1
    clear H1
    simp only [Option.some.injEq, Prod.mk.injEq] at H
    obtain ⟨rfl, rfl⟩ := H
    go_enter Try.func31, Try.ntmps31
    go_wp2_with (first | ((with_reducible refine gate_dst (N := 6) rfl ?_); refine box_event ?hg (N := 6) ?hd (cs := #[.int .u32 0, .int .i64 0]) (t := 99) ?hr ?_; (case hd => rfl); (case hg => rfl); (case hr => first | (go_simp; done) | (go_simp; rfl)); intro gb219 hg w21 hbox hb; have n0_ := Aside0.mk (below_step (by repeat (first | (with_reducible first | exact HB.out | apply below_alloc | apply pw_below_drewN | apply below_drew1) | exact HB.out)) hb); have n1_ := Aside0.mk (hbox); have n2_ := Aside0.mk ((by rw [hg]; exact (below_size (by repeat (first | (with_reducible first | exact HB.out | apply below_alloc | apply pw_below_drewN | apply below_drew1) | exact HB.out))) : w.heap.size ≤ gb219)); have n3_ := Aside0.mk ((by rw [hg]; exact (below_size (by repeat (first | (with_reducible first | exact HB.out | apply below_alloc | apply pw_below_drewN | apply below_drew1) | exact HB.out))) : w.heap.size ≤ gb219)); clear HB; have HB := n0_; have BK219 := n1_; have GW219 := n2_; have GE219 := n3_; clear n0_ n1_ n2_ n3_; clear hb hbox hg; have hcz22_0 : w21.cell? ⟨gb219, 0, none⟩ = some (.int .u32 0) := (blk_cell BK219.out 0).trans rfl; have hcz22_1 : w21.cell? ⟨gb219, 1, none⟩ = some (.int .i64 0) := (blk_cell BK219.out 1).trans rfl; have hfz22_0 := blk_frozen BK219.out 0; have hfz22_1 := blk_frozen BK219.out 1) | ((with_reducible refine gate_callee (f := 52) rfl ?_); refine goesL_ (some 12) rfl rfl Try.func52 (by kernel_rfl) rfl #[.agg #[.int .u32 a0, .int .i64 a1]] rfl (by (try simp only [List.map_toArray, List.map_cons, List.map_nil]); first | done | rfl | (simp only [List.length_drop, List.length_take]; rfl) | (rw [Go.Proofs.Ytdpodjgggicaoaa.H.u64_id _ (by simp only [decide_eq_false_iff_not, decide_eq_true_eq, Nat.not_lt, Int.not_lt] at *; omega) (by simp only [decide_eq_false_iff_not, decide_eq_true_eq, Nat.not_lt, Int.not_lt] at *; omega)]; rfl)) ?_; (with_reducible refine (segment_head_may.calls a0 a1 false _ A3.out).mono ?_); rintro e w23 ⟨rfl, hb⟩; refine ⟨_, rfl, ?_⟩; have n0_ := Aside0.mk (blk_below (g := gb219) (o := .cells #[.int .u32 a0, .int .i64 a1] 99 (0, 0)) (by (with_reducible repeat (first | refine blk_drewN ?_ _ | refine blk_drew ?_ | refine blk_alloc ?_ _)); refine blk_put (cs := #[.int .u32 a0, .int .i64 0]) ?_ 1 _ rfl; (with_reducible repeat (first | refine blk_drewN ?_ _ | refine blk_drew ?_ | refine blk_alloc ?_ _)); refine blk_put (cs := #[.int .u32 0, .int .i64 0]) ?_ 0 _ rfl; (with_reducible repeat (first | refine blk_drewN ?_ _ | refine blk_drew ?_ | refine blk_alloc ?_ _)); exact BK219.out) hb); have n1_ := Aside0.mk (below_step (by repeat (first | (with_reducible first | exact HB.out | apply below_alloc | apply pw_below_drewN | apply below_drew1 | refine below_set ?_ GE219.out) | exact HB.out)) hb); clear BK219; clear HB; have BK219 := n0_; have HB := n1_; clear n0_ n1_; (try clear hb); (try clear hb2); (try clear hk); (try clear hi)))
    go_ret2
    exact ⟨_, by first | rfl | (simp [errW_none, errW_some] <;> rfl) | (simp [*, errW_none, errW_some] <;> rfl), by first | exact Kd.R_nil _ _ _ _ _ | exact Kd.N_nil _ _ _ _ _ | exact Kd.V_nil _ _ _ _ _ | exact Kd.Q_nil _ _ _ _ _ | exact Kd.S_nil _ _ _ _ _, by repeat (first | (with_reducible first | exact HB.out | apply below_alloc | apply pw_below_drewN | apply below_drew1 | refine below_set ?_ GE219.out) | exact HB.out)⟩
end Go.Proofs.Ytdpodjgggicaoaa.SO
