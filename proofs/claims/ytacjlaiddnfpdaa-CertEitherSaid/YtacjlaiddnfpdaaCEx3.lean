-- WRITTEN FOR THIS CLAIM by wip/tools/mp.py, a program of this project that drives the kit's print; the functions that the print does not take are this project's own texts.
import Derived.Test.YtacjlaiddnfpdaaCEx0
import Derived.Test.YtacjlaiddnfpdaaCEx1
import Derived.Test.YtacjlaiddnfpdaaCEx2
namespace Go.Proofs.Ytacjlaiddnfpdaa.CE
open Go.RowKit Go.Proofs.YtacjlaiddnfpdaaW.PrintWords Go.Proofs.YtacjlaiddnfpdaaW.PrintLast Go.Proofs.YtacjlaiddnfpdaaW.PrintMore
attribute [local go_sem] max2_int min2_int max_two min_two max_three min_three max_four min_four   -- for this text's walks alone
set_option linter.unusedVariables false
set_option linter.unusedSimpArgs false

attribute [local go_sem high] eqA48
/-! ### slices_Contains_bool_bool: function 36 -/
def slices_Contains_bool_bool.f (k : Nat) (l0 : List Bool) (a1 : Bool) : Option (Bool) := (slices_Index_bool_bool.f k l0 a1).bind fun t108 => (some (decide (t108 ≥ 0)))
theorem slices_Contains_bool_bool.mono : ∀ a0 a1 k, LeO (slices_Contains_bool_bool.f k a0 a1) (slices_Contains_bool_bool.f (k + 1) a0 a1) := by
  intro a0 a1 k
  unfold slices_Contains_bool_bool.f
  repeat' first
      | (with_reducible exact slices_Index_bool_bool.mono _ _ _)
      | (with_reducible exact LeO.refl _)
      | (with_reducible exact LeO.none _)
      | (with_reducible refine LeO.ite ?_ ?_)
      | (with_reducible refine LeO.bind ?_ (fun _ => ?_))
      | exact slices_Index_bool_bool.mono _ _ _
      | exact LeO.none _
      | refine LeO.ite ?_ ?_
      | refine LeO.bind ?_ (fun _ => ?_)
set_option maxHeartbeats 8000000 in
set_option maxRecDepth 100000 in
theorem slices_Contains_bool_bool.calls (k : Nat) (A0 : Option Addr) (c0 : Nat) (l0 : List Bool) (a1 : Bool) (r : Bool) (w : World) (hr0 : Kd.C Kd.bool w A0 l0.length l0) (hc0 : l0.length ≤ c0) (h : slices_Contains_bool_bool.f k l0 a1 = some r) :
    Calls Try.prog 36 #[.slice A0 l0.length c0, .bool a1] w fun e w' => e = .returned (.bool r) ∧ Drawn0 w w' := by
  have HR0 := Aside0.mk hr0
  have HC0 := Aside0.mk hc0
  clear hr0 hc0
  have H : ((slices_Index_bool_bool.f k l0 a1).bind fun t108 => (some (decide (t108 ≥ 0)))) = some r := h
  clear h
  replace H := Option.bind_eq_some_iff.mp H
  obtain ⟨t108, A30, H⟩ := H
  replace H : (some (decide (t108 ≥ 0))) = some r := H
  have A3 := Aside0.mk A30
  clear A30
  obtain rfl := Option.some.inj H
  go_enter Try.func36, Try.ntmps36
  go_wp2_with (first | ((with_reducible refine gate_callee (f := 51) rfl ?_); refine goesL_ (some 7) rfl rfl Try.func51 (by kernel_rfl) rfl #[.slice A0 l0.length c0, .bool a1] rfl (by (try simp only [List.map_toArray, List.map_cons, List.map_nil]); first | done | rfl | (simp only [List.length_drop, List.length_take]; rfl)) ?_; (with_reducible refine (slices_Index_bool_bool.calls k _ _ l0 a1 t108 _ ?side1 ?side2 A3.out).mono ?_); (case side1 => repeat (first | exact HR0.out | (with_reducible refine Kd.C_alloc ?_ _) | (with_reducible refine Kd.C_drewN ?_ _) | (with_reducible refine Kd.C_drew ?_))); (case side2 => exact HC0.out); rintro e w' ⟨rfl, ⟨nd, rfl⟩⟩; refine ⟨_, rfl, ?_⟩))
  go_ret
  exact ⟨by first | rfl | (simp; done) | (simp [*]; done), by repeat (first | exact Drawn0.refl _ | apply Drawn0.step)⟩

/-! ### cert_Offsets: function 16 -/
def cert_Offsets_bad (x : Int) : Bool := decide (x > 0) || decide (x < -288230376151711744)
def cert_Offsets_one (offs : List Int) (held : List Bool) (e : S48) : Bool := held.getD e.f0.toNat false && (!held.getD e.f1.toNat false && (wrap64 (rd offs e.f0 + e.f2) == rd offs e.f1))
def cert_Offsets_find (offs : List Int) (held : List Bool) : List S48 → Option Int
  | [] => none
  | e :: r => if cert_Offsets_one offs held e = true then some e.f1 else cert_Offsets_find offs held r
def cert_Offsets_hold (es : List S48) (offs : List Int) : Nat → List Bool → Option (List Bool)
  | 0, _ => none
  | k + 1, held => match cert_Offsets_find offs held es with
    | none => some held
    | some t => cert_Offsets_hold es offs k (held.set t.toNat true)
theorem cert_Offsets_hold_mono (es : List S48) (offs : List Int) : ∀ (k : Nat) (held : List Bool), LeO (cert_Offsets_hold es offs k held) (cert_Offsets_hold es offs (k + 1) held)
  | 0, _ => fun r h => by simp [cert_Offsets_hold] at h
  | k + 1, held => by
    intro r h
    unfold cert_Offsets_hold at h ⊢
    cases hf : cert_Offsets_find offs held es with
    | none => rw [hf] at h; exact h
    | some t => rw [hf] at h; exact cert_Offsets_hold_mono es offs k _ r h
def cert_Offsets_in (n : Int) (es : List S48) : Bool := es.all fun e => decide (0 ≤ e.f0 ∧ e.f0 < n ∧ 0 ≤ e.f1 ∧ e.f1 < n)
def cert_Offsets.f (k : Nat) (a0 : Int) (l1 : List S48) (l2 : List Int) : Option Bool :=
  (relax_May.f a0 l1).bind fun m => if m = true then
    (if (l2.length : Int) = a0 then (bound_All.f k l1 l2).bind fun b => if b = true then
      (if l2.length ≤ 1000000 ∧ l1.length ≤ 1000000 ∧ cert_Offsets_in a0 l1 = true then
        (if l2.any cert_Offsets_bad = true then some false else (cert_Offsets_hold l1 l2 k (l2.map (· == 0))).bind fun held => (slices_Contains_bool_bool.f k held false).bind fun c => some (!c)) else none)
      else some false else some false)
  else some false
theorem cert_Offsets.mono : ∀ a0 a1 a2 k, LeO (cert_Offsets.f k a0 a1 a2) (cert_Offsets.f (k + 1) a0 a1 a2) := by
  intro a0 a1 a2 k
  exact LeO.bind (LeO.refl _) (fun _ => LeO.ite (LeO.ite (LeO.bind (bound_All.mono _ _ _) (fun _ => LeO.ite (LeO.ite (LeO.ite (LeO.refl _) (LeO.bind (cert_Offsets_hold_mono _ _ _ _) (fun _ => LeO.bind (slices_Contains_bool_bool.mono _ _ _) (fun _ => LeO.refl _)))) (LeO.refl _)) (LeO.refl _))) (LeO.refl _)) (LeO.refl _))
theorem cert_Offsets_hold_length (es : List S48) (offs : List Int) : ∀ (k : Nat) (held res : List Bool), cert_Offsets_hold es offs k held = some res → res.length = held.length
  | 0, held, res, h => by simp [cert_Offsets_hold] at h
  | k + 1, held, res, h => by
    unfold cert_Offsets_hold at h
    cases hf : cert_Offsets_find offs held es with
    | none => rw [hf] at h; rw [← Option.some.inj h]
    | some t => rw [hf] at h; rw [cert_Offsets_hold_length es offs k _ _ h, List.length_set]
theorem cert_Offsets_start (l : List Int) (i : Nat) (h : i < l.length) (x : Int) (hx : l[i] = x) : (((l.take i).map (· == 0)) ++ List.replicate (l.length - i) false).set i (x == 0) = ((l.take (i + 1)).map (· == 0)) ++ List.replicate (l.length - (i + 1)) false := by
  subst hx
  rw [List.take_succ_eq_append_getElem h, List.map_append, show l.length - i = (l.length - (i + 1)) + 1 by omega, List.replicate_succ, List.set_append]
  simp [List.length_take, Nat.min_eq_left (Nat.le_of_lt h)]
set_option maxHeartbeats 8000000 in
set_option maxRecDepth 100000 in
theorem cert_Offsets.calls (k : Nat) (a0 : Int) (A1 : Option Addr) (c1 : Nat) (l1 : List S48) (A2 : Option Addr) (c2 : Nat) (l2 : List Int) (r : Bool) (w : World) (hr1 : Kd.C k48 w A1 l1.length l1) (hc1 : l1.length ≤ c1) (hr2 : Kd.C (Kd.int .i64) w A2 l2.length l2) (hc2 : l2.length ≤ c2) (h : cert_Offsets.f k a0 l1 l2 = some r) :
    Calls Try.prog 16 #[.int .i64 a0, .slice A1 l1.length c1, .slice A2 l2.length c2] w fun e w' => e = .returned (.bool r) ∧ Below w.heap.size w w' := by
  have hu_ := Try.underlying48
  obtain ⟨m, hm, h'⟩ := Option.bind_eq_some_iff.mp h
  clear h
  have h := h'
  clear h'
  have HR1 := Aside0.mk hr1
  have HR2 := Aside0.mk hr2
  have HC1 := Aside0.mk hc1
  have HC2 := Aside0.mk hc2
  have HM := Aside0.mk hm
  have HB0 := Aside0.mk (Below.refl w.heap.size w)
  clear hr1 hr2 hc1 hc2 hm
  cases m with
  | false =>
    obtain rfl := Option.some.inj (show some false = some r from h)
    clear h
    go_enter Try.func16, Try.ntmps16
    go_wp2_with (fail)
    refine Go.Proofs.Ytacjlaiddnfpdaa.H.wp_scope_count 0 (fun _ _ _ => False) rfl (fun _ _ _ h => h.elim) (fun _ => ?_)
    go_wp2_with (fail)
    refine (relax_May.calls a0 A1 c1 l1 false _ HR1.out HC1.out HM.out).mono ?_
    rintro e w2 ⟨rfl, hb⟩
    have HB2 := Aside0.mk hb
    clear hb
    go_wp2_with (fail)
    simp only [Exit.jump]
    go_ret
    exact ⟨rfl, HB2.out⟩
  | true =>
  rw [if_pos rfl] at h
  by_cases cn : (l2.length : Int) = a0
  case neg =>
    rw [if_neg cn] at h
    obtain rfl := Option.some.inj h
    have cnb : ((l2.length : Int) != a0) = true := bne_iff_ne.mpr cn
    clear h cn
    go_enter Try.func16, Try.ntmps16
    go_wp2_with (fail)
    refine Go.Proofs.Ytacjlaiddnfpdaa.H.wp_scope_count 0 (fun _ _ _ => False) rfl (fun _ _ _ h => h.elim) (fun _ => ?_)
    go_wp2_with (fail)
    refine (relax_May.calls a0 A1 c1 l1 true _ HR1.out HC1.out HM.out).mono ?_
    rintro e w2 ⟨rfl, hb⟩
    have HB2 := Aside0.mk hb
    clear hb
    go_wp2_with (fail)
    simp only [Exit.jump]
    go_ret
    exact ⟨rfl, HB2.out⟩
  rw [if_pos cn] at h
  have cnb : ((l2.length : Int) != a0) = false := bne_eq_false_iff_eq.mpr cn
  obtain ⟨b, hb, h'⟩ := Option.bind_eq_some_iff.mp h
  clear h
  have h := h'
  clear h'
  have HA := Aside0.mk hb
  clear hb
  cases b with
  | false =>
    obtain rfl := Option.some.inj (show some false = some r from h)
    clear h cn
    go_enter Try.func16, Try.ntmps16
    go_wp2_with (fail)
    refine Go.Proofs.Ytacjlaiddnfpdaa.H.wp_scope_count 0 (fun _ _ _ => False) rfl (fun _ _ _ h => h.elim) (fun _ => ?_)
    go_wp2_with (fail)
    refine (relax_May.calls a0 A1 c1 l1 true _ HR1.out HC1.out HM.out).mono ?_
    rintro e w2 ⟨rfl, hb⟩
    have HB2 := Aside0.mk hb
    clear hb
    go_wp2_with (fail)
    refine (bound_All.calls k A1 c1 l1 A2 c2 l2 false _ (Kd.C_below HR1.out HB2.out) HC1.out (Kd.C_below HR2.out HB2.out) HC2.out HA.out).mono ?_
    rintro e w3 ⟨rfl, hb⟩
    have HB3 := Aside0.mk (below_step HB2.out hb)
    clear hb
    go_wp2_with (fail)
    simp only [Exit.jump]
    go_ret
    exact ⟨rfl, HB3.out⟩
  | true =>
  rw [if_pos rfl] at h
  by_cases ci : l2.length ≤ 1000000 ∧ l1.length ≤ 1000000 ∧ cert_Offsets_in a0 l1 = true
  case neg => rw [if_neg ci] at h; cases h
  rw [if_pos ci] at h
  obtain ⟨n2, n1, hin⟩ := ci
  have HIN := Aside0.mk hin
  clear hin
  obtain rfl : a0 = (l2.length : Int) := cn.symm
  have hmk := print_make_of (P := Try.prog) 52 4 (.bool false) 1 Try.underlying52 info4 rfl (by decide) l2.length (by omega)
  clear cn
  by_cases ca : l2.any cert_Offsets_bad = true
  case pos =>
    rw [if_pos ca] at h
    obtain rfl := Option.some.inj h
    have HANY := Aside0.mk ca
    clear h ca
    go_enter Try.func16, Try.ntmps16
    go_wp2_with (fail)
    refine Go.Proofs.Ytacjlaiddnfpdaa.H.wp_scope_count 0 (fun _ _ _ => False) rfl (fun _ _ _ h => h.elim) (fun _ => ?_)
    go_wp2_with (fail)
    refine (relax_May.calls (l2.length : Int) A1 c1 l1 true _ HR1.out HC1.out HM.out).mono ?_
    rintro e w2 ⟨rfl, hb⟩
    have HB2 := Aside0.mk hb
    clear hb
    go_wp2_with (fail)
    refine (bound_All.calls k A1 c1 l1 A2 c2 l2 true _ (Kd.C_below HR1.out HB2.out) HC1.out (Kd.C_below HR2.out HB2.out) HC2.out HA.out).mono ?_
    rintro e w3 ⟨rfl, hb⟩
    have HB3 := Aside0.mk (below_step HB2.out hb)
    clear hb
    go_wp2_with (fail)
    go_loopg [32] l2.length (fun d v32 wr => ∃ (i : Nat), i + d = l2.length ∧ v32 = .int .i64 i ∧ Aside0 (Go.Proofs.Ytacjlaiddnfpdaa.H.rowB wr w3.heap.size 4 (((l2.take i).map (· == 0)) ++ List.replicate (l2.length - i) false)) ∧ Aside0 (Below w.heap.size w wr) ∧ Aside0 (∀ x ∈ l2.take i, cert_Offsets_bad x = false))
    case atStart => exact ⟨0, by omega, rfl, ⟨by simpa using Go.Proofs.Ytacjlaiddnfpdaa.H.rowB_made w3 4 l2.length⟩, ⟨below_alloc HB3.out _⟩, ⟨by simp⟩⟩
    case round =>
      obtain ⟨i, hi, rfl, HW, HB, HG⟩ := hrel
      by_cases hlt : i < l2.length
      · have hltz : (i : Int) < (l2.length : Int) := by omega
        obtain ⟨ad, e, hx⟩ := Kd.at_int HR2.out (i : Int) (by omega) hltz
        cases e
        replace hx := (HB.out.cell (World.block_lt_of_cell? w _ hx)).trans hx
        simp only [Int.toNat_natCast] at hx
        have hy : rd l2 (i : Int) = l2[i] := by unfold rd; rw [Int.toNat_natCast, List.getD_eq_getElem?_getD, List.getElem?_eq_getElem hlt]; rfl
        rw [hy] at hx
        clear hy
        obtain ⟨x, hxd⟩ : ∃ x, l2[i] = x := ⟨_, rfl⟩
        rw [hxd] at hx
        have HXD := Aside0.mk hxd
        clear hxd
        by_cases b1 : x > 0
        · have b1b := decide_eq_true b1
          go_wp2_with (fail)
          simp only [Exit.jump]
          go_ret
          exact ⟨rfl, HB.out⟩
        have b1b := decide_eq_false b1
        by_cases b2 : x < -288230376151711744
        · have b2b := decide_eq_true b2
          go_wp2_with (fail)
          simp only [Exit.jump]
          go_ret
          exact ⟨rfl, HB.out⟩
        have b2b := decide_eq_false b2
        have hcell := Go.Proofs.Ytacjlaiddnfpdaa.H.rowB_cell HW.out (i : Int) (by omega) (by simp; omega)
        have hfr := Go.Proofs.Ytacjlaiddnfpdaa.H.rowB_frozen HW.out i
        simp only [Int.toNat_natCast] at hcell
        have HWN := Aside0.mk (by have h_ := Go.Proofs.Ytacjlaiddnfpdaa.H.rowB_set HW.out i (x == 0); rw [cert_Offsets_start l2 i hlt x HXD.out] at h_; exact h_)
        have HBN := Aside0.mk (show Below w.heap.size w (wr.setCell ⟨w3.heap.size, i, none⟩ (.bool (x == 0))) from below_set HB.out HB3.out.size)
        have HGN := Aside0.mk (show ∀ y ∈ l2.take (i + 1), cert_Offsets_bad y = false by
          intro y hy
          rw [List.take_succ_eq_append_getElem hlt] at hy
          rcases List.mem_append.1 hy with h | h
          · exact HG.out y h
          · rw [List.mem_singleton.1 h, HXD.out]
            unfold cert_Offsets_bad
            simp only [Bool.or_eq_false_iff]
            exact ⟨decide_eq_false b1, decide_eq_false b2⟩)
        clear b1 b2
        go_wp2_with (fail)
        go_roundg (gk - 1)
        case measure => omega
        case rel => exact ⟨i + 1, by omega, by go_num, HWN, HBN, HGN⟩
      · exfalso
        obtain rfl : i = l2.length := by omega
        obtain ⟨x, hx, hbx⟩ := List.any_eq_true.1 HANY.out
        have := HG.out x (by rw [List.take_of_length_le (Nat.le_refl _)]; exact hx)
        rw [hbx] at this; cases this
  case neg =>
    rw [if_neg ca] at h
    obtain ⟨res, hres, h'⟩ := Option.bind_eq_some_iff.mp h
    obtain ⟨c, hc, h''⟩ := Option.bind_eq_some_iff.mp h'
    obtain rfl := Option.some.inj h''
    have HANY := Aside0.mk (Bool.eq_false_iff.mpr ca)
    have HRES := Aside0.mk hres
    have HCO := Aside0.mk hc
    clear h h' h'' ca hres hc
    go_enter Try.func16, Try.ntmps16
    go_wp2_with (fail)
    refine Go.Proofs.Ytacjlaiddnfpdaa.H.wp_scope_count 0 (fun d a' w' => ∃ (g : Nat) (held : List Bool) (u3 u4 u5 u6 u8 u9 u10 u11 u12 u13 u14 u15 u16 u17 u18 u19 u20 u21 u22 u23 u24 u25 u26 u27 u28 u29 u30 u31 u32 u33 u34 u35 u36 u37 u38 u39 u40 u41 u42 u43 u44 u45 u46 u47 u48 u49 u50 u51 u52 u53 u54 u55 u56 u57 u58 u59 u60 u61 u62 u63 u64 u65 u66 u67 u68 u69 u70 u71 u72 u73 u74 u75 u76 u77 u78 u79 u80 u81 u82 u83 u84 u85 u86 u87 u88 u89 u90 u91 : Value), a' = { tmps := #[.int .i64 (l2.length : Int), .slice A1 l1.length c1, .slice A2 l2.length c2, u3, u4, u5, u6, .slice (some ⟨g, 0, none⟩) l2.length l2.length, u8, u9, u10, u11, u12, u13, u14, u15, u16, u17, u18, u19, u20, u21, u22, u23, u24, u25, u26, u27, u28, u29, u30, u31, u32, u33, u34, u35, u36, u37, u38, u39, u40, u41, u42, u43, u44, u45, u46, u47, u48, u49, u50, u51, u52, u53, u54, u55, u56, u57, u58, u59, u60, u61, u62, u63, u64, u65, u66, u67, u68, u69, u70, u71, u72, u73, u74, u75, u76, u77, u78, u79, u80, u81, u82, u83, u84, u85, u86, u87, u88, u89, u90, u91], defers := [] } ∧ Aside0 (held.length = l2.length) ∧ Aside0 (cert_Offsets_hold l1 l2 d held = some res) ∧ Aside0 (Go.Proofs.Ytacjlaiddnfpdaa.H.rowB w' g 4 held) ∧ Aside0 (Below w.heap.size w w') ∧ Aside0 (w.heap.size ≤ g)) rfl ?_ (fun HPASS => ?_)
    · clear HM HA cnb hmk HRES HANY HB0
      rintro d a' w' ⟨g, held, u3, u4, u5, u6, u8, u9, u10, u11, u12, u13, u14, u15, u16, u17, u18, u19, u20, u21, u22, u23, u24, u25, u26, u27, u28, u29, u30, u31, u32, u33, u34, u35, u36, u37, u38, u39, u40, u41, u42, u43, u44, u45, u46, u47, u48, u49, u50, u51, u52, u53, u54, u55, u56, u57, u58, u59, u60, u61, u62, u63, u64, u65, u66, u67, u68, u69, u70, u71, u72, u73, u74, u75, u76, u77, u78, u79, u80, u81, u82, u83, u84, u85, u86, u87, u88, u89, u90, u91, rfl, HL, HH, HW, HB, HGE⟩
      cases d with
      | zero => exact absurd HH.out (by simp [cert_Offsets_hold])
      | succ d =>
      go_wp2_with (fail)
      go_loopg [51] l1.length (fun dd v51 wr => ∃ (i : Nat), i + dd = l1.length ∧ v51 = .int .i64 i ∧ Aside0 (cert_Offsets_find l2 held (l1.drop i) = cert_Offsets_find l2 held l1) ∧ Aside0 (Go.Proofs.Ytacjlaiddnfpdaa.H.rowB wr g 4 held) ∧ Aside0 (Below w.heap.size w wr))
      case atStart => exact ⟨0, by omega, rfl, ⟨rfl⟩, HW, HB⟩
      case round =>
        clear HW HB
        obtain ⟨i, hi, rfl, HF, HW, HB⟩ := hrel
        by_cases hlt : i < l1.length
        · have hltz : (i : Int) < (l1.length : Int) := by omega
          obtain ⟨ad1, e, hx0, hx1, hx2, hx3, hx4, hx5⟩ := at_T48 HR1.out (i : Int) (by omega) hltz
          cases e
          replace hx0 := (HB.out.cell (World.block_lt_of_cell? w _ hx0)).trans hx0; simp only [Int.toNat_natCast] at hx0
          replace hx1 := (HB.out.cell (World.block_lt_of_cell? w _ hx1)).trans hx1; simp only [Int.toNat_natCast] at hx1
          replace hx2 := (HB.out.cell (World.block_lt_of_cell? w _ hx2)).trans hx2; simp only [Int.toNat_natCast] at hx2
          replace hx3 := (HB.out.cell (World.block_lt_of_cell? w _ hx3)).trans hx3; simp only [Int.toNat_natCast] at hx3
          replace hx4 := (HB.out.cell (World.block_lt_of_cell? w _ hx4)).trans hx4; simp only [Int.toNat_natCast] at hx4
          replace hx5 := (HB.out.cell (World.block_lt_of_cell? w _ hx5)).trans hx5; simp only [Int.toNat_natCast] at hx5
          have hy : rd_T48 l1 (i : Int) = l1[i] := by show l1.getD _ _ = _; simp [List.getD_eq_getElem?_getD, List.getElem?_eq_getElem hlt]
          rw [hy] at hx0 hx1 hx2 hx3 hx4 hx5
          have hf := HF.out
          rw [List.drop_eq_getElem_cons hlt] at hf
          have hin := of_decide_eq_true (List.all_eq_true.1 HIN.out _ (List.getElem_mem hlt))
          clear hy HF
          generalize l1[i] = s at hx0 hx1 hx2 hx3 hx4 hx5 hf hin
          obtain ⟨i0, i1, j0, j1⟩ := hin
          obtain ⟨ad2, e, hy0⟩ := Kd.at_int HR2.out s.f0 i0 i1
          cases e
          obtain ⟨ad3, e, hy1⟩ := Kd.at_int HR2.out s.f1 j0 j1
          cases e
          replace hy0 : ∀ o : Obj, (wr.alloc o).cell? (ad2.add s.f0.toNat) = some (.int .i64 (rd l2 s.f0)) := fun o => ((below_alloc HB.out o).cell (World.block_lt_of_cell? w _ hy0)).trans hy0
          replace hy1 : ∀ o : Obj, (wr.alloc o).cell? (ad2.add s.f1.toNat) = some (.int .i64 (rd l2 s.f1)) := fun o => ((below_alloc HB.out o).cell (World.block_lt_of_cell? w _ hy1)).trans hy1
          have hz0 : ∀ o : Obj, (wr.alloc o).cell? ⟨g, s.f0.toNat, none⟩ = some (.bool (held.getD s.f0.toNat false)) := fun o => Go.Proofs.Ytacjlaiddnfpdaa.H.rowB_cell (Go.Proofs.Ytacjlaiddnfpdaa.H.rowB_alloc HW.out o) s.f0 i0 (by rw [HL.out]; exact i1)
          have hz1 : ∀ o : Obj, (wr.alloc o).cell? ⟨g, s.f1.toNat, none⟩ = some (.bool (held.getD s.f1.toNat false)) := fun o => Go.Proofs.Ytacjlaiddnfpdaa.H.rowB_cell (Go.Proofs.Ytacjlaiddnfpdaa.H.rowB_alloc HW.out o) s.f1 j0 (by rw [HL.out]; exact j1)
          have HO := Aside0.mk (show cert_Offsets_one l2 held s = (held.getD s.f0.toNat false && (!held.getD s.f1.toNat false && (wrap64 (rd l2 s.f0 + s.f2) == rd l2 s.f1))) from rfl)
          have HFF := Aside0.mk (show (if cert_Offsets_one l2 held s = true then some s.f1 else cert_Offsets_find l2 held (l1.drop (i + 1))) = cert_Offsets_find l2 held l1 from hf)
          clear hf
          generalize hg0 : held.getD s.f0.toNat false = x0 at hz0 HO
          generalize hg1 : held.getD s.f1.toNat false = x1 at hz1 HO
          clear hg0 hg1
          cases x0 with
          | false =>
            have HFN := Aside0.mk (show cert_Offsets_find l2 held (l1.drop (i + 1)) = cert_Offsets_find l2 held l1 by have h_ := HFF.out; rw [HO.out] at h_; simpa using h_)
            clear HFF HO
            go_wp2
            go_quiet (fail)
            go_wp2_with (fail)
            go_roundg (gk - 1)
            case measure => omega
            case rel => exact ⟨i + 1, by omega, by go_num, HFN, ⟨by first | exact Go.Proofs.Ytacjlaiddnfpdaa.H.rowB_drewN (Go.Proofs.Ytacjlaiddnfpdaa.H.rowB_alloc HW.out _) _ | exact Go.Proofs.Ytacjlaiddnfpdaa.H.rowB_alloc HW.out _⟩, ⟨by first | exact pw_below_drewN (below_alloc HB.out _) _ | exact below_alloc HB.out _⟩⟩
          | true =>
          cases x1 with
          | true =>
            have HFN := Aside0.mk (show cert_Offsets_find l2 held (l1.drop (i + 1)) = cert_Offsets_find l2 held l1 by have h_ := HFF.out; rw [HO.out] at h_; simpa using h_)
            clear HFF HO
            go_wp2
            go_quiet (fail)
            go_wp2_with (fail)
            go_roundg (gk - 1)
            case measure => omega
            case rel => exact ⟨i + 1, by omega, by go_num, HFN, ⟨by first | exact Go.Proofs.Ytacjlaiddnfpdaa.H.rowB_drewN (Go.Proofs.Ytacjlaiddnfpdaa.H.rowB_alloc HW.out _) _ | exact Go.Proofs.Ytacjlaiddnfpdaa.H.rowB_alloc HW.out _⟩, ⟨by first | exact pw_below_drewN (below_alloc HB.out _) _ | exact below_alloc HB.out _⟩⟩
          | false =>
          go_wp2
          go_quiet (fail)
          by_cases ct : wrap64 (rd l2 s.f0 + s.f2) = rd l2 s.f1
          · have ctb := beq_iff_eq.mpr ct
            have HFN := Aside0.mk (show cert_Offsets_find l2 held l1 = some s.f1 by have h_ := HFF.out; rw [HO.out, ct] at h_; simpa using h_.symm)
            clear HFF HO ct
            obtain ⟨W, hW⟩ : ∃ W, W = ((wr.alloc (.cells #[.int .i64 s.f0, .int .i64 s.f1, .int .i64 s.f2, .int .i64 s.f3.f0, .int .i64 s.f3.f1, .bool s.f4] 48 (0, 0))).drewN nq) := ⟨_, rfl⟩
            have hv1 : W.cell? ⟨wr.heap.size, 1, none⟩ = some (.int .i64 s.f1) := by rw [hW]; exact (blk_cell (blk_new wr _) 1).trans rfl
            have hw1 : W.cell? ⟨g, s.f1.toNat, none⟩ = some (.bool false) := by rw [hW]; exact hz1 _
            have HWW := Aside0.mk (show Go.Proofs.Ytacjlaiddnfpdaa.H.rowB W g 4 held by rw [hW]; exact Go.Proofs.Ytacjlaiddnfpdaa.H.rowB_drewN (Go.Proofs.Ytacjlaiddnfpdaa.H.rowB_alloc HW.out _) _)
            have hfw := Go.Proofs.Ytacjlaiddnfpdaa.H.rowB_frozen HWW.out s.f1.toNat
            have HBW := Aside0.mk (show Below w.heap.size w W by rw [hW]; exact pw_below_drewN (below_alloc HB.out _) _)
            rw [← hW]
            clear hW hy0 hy1 hz0 hz1
            have HHN := Aside0.mk (show cert_Offsets_hold l1 l2 d (held.set s.f1.toNat true) = some res by have hh := HH.out; unfold cert_Offsets_hold at hh; rw [HFN.out] at hh; exact hh)
            go_wp2_with (fail)
            go_step3
            refine ⟨rfl, d, Nat.lt_succ_self d, ⟨g, held.set s.f1.toNat true, _, _, _, _, _, _, _, _, _, _, _, _, _, _, _, _, _, _, _, _, _, _, _, _, _, _, _, _, _, _, _, _, _, _, _, _, _, _, _, _, _, _, _, _, _, _, _, _, _, _, _, _, _, _, _, _, _, _, _, _, _, _, _, _, _, _, _, _, _, _, _, _, _, _, _, _, _, _, _, _, _, _, _, _, _, _, _, _, rfl, ⟨by rw [List.length_set]; exact HL.out⟩, HHN, ⟨Go.Proofs.Ytacjlaiddnfpdaa.H.rowB_set HWW.out _ _⟩, ⟨below_set HBW.out HGE.out⟩, HGE⟩⟩
          · have ctb : (wrap64 (rd l2 s.f0 + s.f2) == rd l2 s.f1) = false := beq_eq_false_iff_ne.mpr ct
            have HFN := Aside0.mk (show cert_Offsets_find l2 held (l1.drop (i + 1)) = cert_Offsets_find l2 held l1 by have h_ := HFF.out; rw [HO.out, ctb] at h_; simpa using h_)
            clear HFF HO ct
            go_wp2_with (fail)
            go_roundg (gk - 1)
            case measure => omega
            case rel => exact ⟨i + 1, by omega, by go_num, HFN, ⟨by first | exact Go.Proofs.Ytacjlaiddnfpdaa.H.rowB_drewN (Go.Proofs.Ytacjlaiddnfpdaa.H.rowB_alloc HW.out _) _ | exact Go.Proofs.Ytacjlaiddnfpdaa.H.rowB_alloc HW.out _⟩, ⟨by first | exact pw_below_drewN (below_alloc HB.out _) _ | exact below_alloc HB.out _⟩⟩
        · obtain rfl : i = l1.length := by omega
          have hh := HH.out
          have hf := HF.out
          rw [List.drop_of_length_le (Nat.le_refl _)] at hf
          unfold cert_Offsets_hold at hh
          rw [← hf] at hh
          obtain rfl := Option.some.inj (show some held = some res from hh)
          clear hh hf HF HH
          have hcall : Calls Try.prog 36 #[.slice (some ⟨g, 0, none⟩) l2.length l2.length, .bool false] wr fun e w' => e = .returned (.bool c) ∧ Drawn0 wr w' := by
            have h_ := slices_Contains_bool_bool.calls k (some ⟨g, 0, none⟩) held.length held false c wr (Go.Proofs.Ytacjlaiddnfpdaa.H.rowB_C HW.out (by rw [HL.out]; omega)) (Nat.le_refl _) HCO.out
            rw [HL.out] at h_
            exact h_
          have HCbound_All := Aside0.mk hcall
          clear hcall
          go_wp2_with (fail)
          refine HCbound_All.out.mono ?_
          rintro e w4 ⟨rfl, hd⟩
          have HB4 := Aside0.mk (below_step HB.out hd.below)
          clear hd
          go_wp2_with (fail)
          simp only [Exit.jump]
          go_ret
          exact ⟨rfl, HB4.out⟩
    · go_wp2_with (fail)
      refine (relax_May.calls (l2.length : Int) A1 c1 l1 true _ HR1.out HC1.out HM.out).mono ?_
      rintro e w2 ⟨rfl, hb⟩
      have HB2 := Aside0.mk hb
      clear hb
      go_wp2_with (fail)
      refine (bound_All.calls k A1 c1 l1 A2 c2 l2 true _ (Kd.C_below HR1.out HB2.out) HC1.out (Kd.C_below HR2.out HB2.out) HC2.out HA.out).mono ?_
      rintro e w3 ⟨rfl, hb⟩
      have HB3 := Aside0.mk (below_step HB2.out hb)
      clear hb
      go_wp2_with (fail)
      go_loopg [32] l2.length (fun d v32 wr => ∃ (i : Nat), i + d = l2.length ∧ v32 = .int .i64 i ∧ Aside0 (Go.Proofs.Ytacjlaiddnfpdaa.H.rowB wr w3.heap.size 4 (((l2.take i).map (· == 0)) ++ List.replicate (l2.length - i) false)) ∧ Aside0 (Below w.heap.size w wr) ∧ Aside0 (∀ x ∈ l2.take i, cert_Offsets_bad x = false))
      case atStart => exact ⟨0, by omega, rfl, ⟨by simpa using Go.Proofs.Ytacjlaiddnfpdaa.H.rowB_made w3 4 l2.length⟩, ⟨below_alloc HB3.out _⟩, ⟨by simp⟩⟩
      case round =>
        obtain ⟨i, hi, rfl, HW, HB, HG⟩ := hrel
        by_cases hlt : i < l2.length
        · have hltz : (i : Int) < (l2.length : Int) := by omega
          obtain ⟨ad, e, hx⟩ := Kd.at_int HR2.out (i : Int) (by omega) hltz
          cases e
          replace hx := (HB.out.cell (World.block_lt_of_cell? w _ hx)).trans hx
          simp only [Int.toNat_natCast] at hx
          have hy : rd l2 (i : Int) = l2[i] := by unfold rd; rw [Int.toNat_natCast, List.getD_eq_getElem?_getD, List.getElem?_eq_getElem hlt]; rfl
          rw [hy] at hx
          clear hy
          obtain ⟨x, hxd⟩ : ∃ x, l2[i] = x := ⟨_, rfl⟩
          rw [hxd] at hx
          have HXD := Aside0.mk hxd
          clear hxd
          by_cases b1 : x > 0
          · have b1b := decide_eq_true b1
            exact absurd (show l2.any cert_Offsets_bad = true from List.any_eq_true.2 ⟨x, by rw [← HXD.out]; exact List.getElem_mem hlt, by unfold cert_Offsets_bad; simp only [Bool.or_eq_true, decide_eq_true_eq]; omega⟩) (by rw [HANY.out]; exact Bool.false_ne_true)
          have b1b := decide_eq_false b1
          by_cases b2 : x < -288230376151711744
          · have b2b := decide_eq_true b2
            exact absurd (show l2.any cert_Offsets_bad = true from List.any_eq_true.2 ⟨x, by rw [← HXD.out]; exact List.getElem_mem hlt, by unfold cert_Offsets_bad; simp only [Bool.or_eq_true, decide_eq_true_eq]; omega⟩) (by rw [HANY.out]; exact Bool.false_ne_true)
          have b2b := decide_eq_false b2
          have hcell := Go.Proofs.Ytacjlaiddnfpdaa.H.rowB_cell HW.out (i : Int) (by omega) (by simp; omega)
          have hfr := Go.Proofs.Ytacjlaiddnfpdaa.H.rowB_frozen HW.out i
          simp only [Int.toNat_natCast] at hcell
          have HWN := Aside0.mk (by have h_ := Go.Proofs.Ytacjlaiddnfpdaa.H.rowB_set HW.out i (x == 0); rw [cert_Offsets_start l2 i hlt x HXD.out] at h_; exact h_)
          have HBN := Aside0.mk (show Below w.heap.size w (wr.setCell ⟨w3.heap.size, i, none⟩ (.bool (x == 0))) from below_set HB.out HB3.out.size)
          have HGN := Aside0.mk (show ∀ y ∈ l2.take (i + 1), cert_Offsets_bad y = false by
            intro y hy
            rw [List.take_succ_eq_append_getElem hlt] at hy
            rcases List.mem_append.1 hy with h | h
            · exact HG.out y h
            · rw [List.mem_singleton.1 h, HXD.out]
              unfold cert_Offsets_bad
              simp only [Bool.or_eq_false_iff]
              exact ⟨decide_eq_false b1, decide_eq_false b2⟩)
          clear b1 b2
          go_wp2_with (fail)
          go_roundg (gk - 1)
          case measure => omega
          case rel => exact ⟨i + 1, by omega, by go_num, HWN, HBN, HGN⟩
        · obtain rfl : i = l2.length := by omega
          have HWN := Aside0.mk (by have h_ := HW.out; rw [List.take_of_length_le (Nat.le_refl _), Nat.sub_self, List.replicate_zero, List.append_nil] at h_; exact h_)
          go_wp2_with (fail)
          go_step3
          simp only [Exit.then]
          apply_assumption
          exact HPASS.out k _ _ ⟨w3.heap.size, l2.map (· == 0), _, _, _, _, _, _, _, _, _, _, _, _, _, _, _, _, _, _, _, _, _, _, _, _, _, _, _, _, _, _, _, _, _, _, _, _, _, _, _, _, _, _, _, _, _, _, _, _, _, _, _, _, _, _, _, _, _, _, _, _, _, _, _, _, _, _, _, _, _, _, _, _, _, _, _, _, _, _, _, _, _, _, _, _, _, _, _, _, rfl, ⟨by simp⟩, HRES, HWN, HB, ⟨HB3.out.size⟩⟩


/-! ### merkhetlaw17_fixed: function 15 -/
def merkhetlaw17_fixed.f (k : Nat)  : Option (Bool) := (some (([(⟨0, 1, (-7), (⟨0, 0⟩ : S46), false⟩ : S48)] : List (S48)) : List (S48))).bind fun y109 => ((cert_Offsets.f k 2 y109 (([0, (-7)] : List Int))).bind fun t115 => (if t115 = true then ((cert_Offsets.f k 2 y109 (([0, (-8)] : List Int))).bind fun t119 => (some (!t119))) else (some false)))
theorem merkhetlaw17_fixed.mono : ∀ k, LeO (merkhetlaw17_fixed.f k ) (merkhetlaw17_fixed.f (k + 1) ) := by
  intro  k
  unfold merkhetlaw17_fixed.f
  repeat' first
      | (with_reducible exact cert_Offsets.mono _ _ _ _)
      | (with_reducible exact LeO.refl _)
      | (with_reducible exact LeO.none _)
      | (with_reducible refine LeO.ite ?_ ?_)
      | (with_reducible refine LeO.bind ?_ (fun _ => ?_))
      | exact cert_Offsets.mono _ _ _ _
      | exact LeO.none _
      | refine LeO.ite ?_ ?_
      | refine LeO.bind ?_ (fun _ => ?_)
set_option maxHeartbeats 8000000 in
set_option maxRecDepth 100000 in
theorem merkhetlaw17_fixed.calls (k : Nat)  (r : Bool) (w : World) (h : merkhetlaw17_fixed.f k  = some r) :
    Calls Try.prog 15 #[] w fun e w' => e = .returned (.bool r) ∧ Below w.heap.size w w' := by
  have hu48 := Try.underlying48
  have HB := Aside0.mk (Below.refl w.heap.size w)
  have H : ((some (([(⟨0, 1, (-7), (⟨0, 0⟩ : S46), false⟩ : S48)] : List (S48)) : List (S48))).bind fun y109 => ((cert_Offsets.f k 2 y109 (([0, (-7)] : List Int))).bind fun t115 => (if t115 = true then ((cert_Offsets.f k 2 y109 (([0, (-8)] : List Int))).bind fun t119 => (some (!t119))) else (some false)))) = some r := h
  clear h
  obtain ⟨y109, hy109⟩ : ∃ y_ : List (S48), y_ = (([(⟨0, 1, (-7), (⟨0, 0⟩ : S46), false⟩ : S48)] : List (S48))) := ⟨_, rfl⟩
  replace H : ((cert_Offsets.f k 2 y109 (([0, (-7)] : List Int))).bind fun t115 => (if t115 = true then ((cert_Offsets.f k 2 y109 (([0, (-8)] : List Int))).bind fun t119 => (some (!t119))) else (some false))) = some r := by first | (rw [hy109]; with_reducible exact H) | (have H2_ := (Option.bind_some _ _).symm.trans H; rw [hy109]; with_reducible exact H2_) | (have H2_ := (Option.bind_some _ _).symm.trans H; with_reducible exact H2_) | with_reducible exact H | (rw [hy109]; exact H) | exact H
  have Ny109 := Aside0.mk hy109
  clear hy109
  obtain ⟨y112, hy112⟩ : ∃ y_ : List Int, y_ = (([0, (-7)] : List Int)) := ⟨_, rfl⟩
  replace H : ((cert_Offsets.f k 2 y109 y112).bind fun t115 => (if t115 = true then ((cert_Offsets.f k 2 y109 (([0, (-8)] : List Int))).bind fun t119 => (some (!t119))) else (some false))) = some r := by first | (rw [hy112]; with_reducible exact H) | (have H2_ := (Option.bind_some _ _).symm.trans H; rw [hy112]; with_reducible exact H2_) | (have H2_ := (Option.bind_some _ _).symm.trans H; with_reducible exact H2_) | with_reducible exact H | (rw [hy112]; exact H) | exact H
  have Ny112 := Aside0.mk hy112
  clear hy112
  replace H := Option.bind_eq_some_iff.mp H
  obtain ⟨t115, A10, H⟩ := H
  replace H : (if t115 = true then ((cert_Offsets.f k 2 y109 (([0, (-8)] : List Int))).bind fun t119 => (some (!t119))) else (some false)) = some r := H
  have A1 := Aside0.mk A10
  clear A10
  by_cases c2 : t115 = true
  · subst c2
    have H1 : ((cert_Offsets.f k 2 y109 (([0, (-8)] : List Int))).bind fun t119 => (some (!t119))) = some r := by rw [if_pos rfl] at H; exact H
    clear H
    have H := H1
    clear H1
    obtain ⟨y116, hy116⟩ : ∃ y_ : List Int, y_ = (([0, (-8)] : List Int)) := ⟨_, rfl⟩
    replace H : ((cert_Offsets.f k 2 y109 y116).bind fun t119 => (some (!t119))) = some r := by first | (rw [hy116]; with_reducible exact H) | (have H2_ := (Option.bind_some _ _).symm.trans H; rw [hy116]; with_reducible exact H2_) | (have H2_ := (Option.bind_some _ _).symm.trans H; with_reducible exact H2_) | with_reducible exact H | (rw [hy116]; exact H) | exact H
    have Ny116 := Aside0.mk hy116
    clear hy116
    replace H := Option.bind_eq_some_iff.mp H
    obtain ⟨t119, A30, H⟩ := H
    replace H : (some (!t119)) = some r := H
    have A3 := Aside0.mk A30
    clear A30
    obtain rfl := Option.some.inj H
    go_enter Try.func15, Try.ntmps15
    go_wp2_with (first | ((with_reducible refine gate_dst (N := 3) rfl ?_); (try (refine gate_guard (by rfl) ?_; dsimp only)); refine Kd.R_lit k48 _ 48 ?hg (N := 3) ?hd (xs := ([(⟨0, 1, (-7), (⟨0, 0⟩ : S46), false⟩ : S48)] : List (S48))) (inner := [.int .i64 0, .int .i64 1, .int .i64 (-7), .int .i64 0, .int .i64 0, .bool false]) (ok := fun _ => True) (okp := fun _ => True) ?hr ?hp (fun _ hk => hk) trivial (Below.refl _ _) (Nat.le_refl _) (by simp) ?_; (case hd => rfl); (case hg => rfl); (case hr => first | (go_simp; done) | (go_simp; rfl)); (case hp => exact (Reps.c6 (show Kd.M k48 _ _ _ (⟨0, 1, (-7), (⟨0, 0⟩ : S46), false⟩ : S48) [.int .i64 0, .int .i64 1, .int .i64 (-7), .int .i64 0, .int .i64 0, .bool false] from (k48_mkM _ _ _ (⟨0, 1, (-7), (⟨0, 0⟩ : S46), false⟩ : S48) )) (Reps.none _ _))); intro v110 w4 ho5 hb hg_ hnew_; clear hg_ hnew_; (first | rw [← Ny109.out] at ho5 | (simp only [Int.reduceToNat] at ho5; rw [← Ny109.out] at ho5)); have n0_ := Aside0.mk (Kd.R_lower ho5 (below_size (by repeat (first | (with_reducible first | exact HB.out | apply below_alloc | apply pw_below_drewN | apply below_drew1) | exact HB.out)))); have n1_ := Aside0.mk (below_step (by repeat (first | (with_reducible first | exact HB.out | apply below_alloc | apply pw_below_drewN | apply below_drew1) | exact HB.out)) hb); clear HB; have HO111 := n0_; have HB := n1_; clear n0_ n1_; clear hb ho5) | ((with_reducible refine gate_dst (N := 5) rfl ?_); (try (refine gate_guard (by rfl) ?_; dsimp only)); refine Kd.R_lit (Kd.int .i64) _ 2 ?hg (N := 5) ?hd (xs := ([0, (-7)] : List Int)) (inner := [.int .i64 0, .int .i64 (-7)]) (ok := fun _ => True) (okp := fun _ => True) ?hr ?hp (fun _ hk => hk) trivial (Below.refl _ _) (Nat.le_refl _) (by simp) ?_; (case hd => rfl); (case hg => rfl); (case hr => first | (go_simp; done) | (go_simp; rfl)); (case hp => exact (Reps.one (show Kd.M (Kd.int .i64) _ _ _ 0 [.int .i64 0] from rfl) (Reps.one (show Kd.M (Kd.int .i64) _ _ _ (-7) [.int .i64 (-7)] from rfl) (Reps.none _ _)))); intro v113 w6 ho7 hb hg_ hnew_; clear hg_ hnew_; (first | rw [← Ny112.out] at ho7 | (simp only [Int.reduceToNat] at ho7; rw [← Ny112.out] at ho7)); have n0_ := Aside0.mk (Kd.R_below (by (with_reducible repeat (first | apply Kd.R_alloc | apply Kd.R_drewN | apply Kd.R_drew)); exact HO111.out) hb); have n1_ := Aside0.mk (Kd.R_lower ho7 (below_size (by repeat (first | (with_reducible first | exact HB.out | apply below_alloc | apply pw_below_drewN | apply below_drew1) | exact HB.out)))); have n2_ := Aside0.mk (below_step (by repeat (first | (with_reducible first | exact HB.out | apply below_alloc | apply pw_below_drewN | apply below_drew1) | exact HB.out)) hb); clear HO111; clear HB; have HO111 := n0_; have HO114 := n1_; have HB := n2_; clear n0_ n1_ n2_; clear hb ho7; obtain ⟨Ao8, co8, eo8⟩ := Kd.R_slice HO111.out; subst eo8; obtain ⟨Ao9, co9, eo9⟩ := Kd.R_slice HO114.out; subst eo9) | ((with_reducible refine gate_callee (f := 16) rfl ?_); refine goesL_ (some 6) rfl rfl Try.func16 (by kernel_rfl) rfl #[.int .i64 2, .slice Ao8 y109.length co8, .slice Ao9 y112.length co9] rfl (by (try simp only [List.map_toArray, List.map_cons, List.map_nil]); first | done | rfl | (simp only [List.length_drop, List.length_take]; rfl)) ?_; (with_reducible refine (cert_Offsets.calls k 2 _ _ y109 _ _ y112 true _ ?side1 ?side2 ?side3 ?side4 A1.out).mono ?_); (case side1 => repeat (first | exact (Kd.R_reads' HO111.out).2.2 | (with_reducible refine Kd.C_alloc ?_ _) | (with_reducible refine Kd.C_drewN ?_ _) | (with_reducible refine Kd.C_drew ?_))); (case side2 => exact (Kd.R_reads' HO111.out).2.1); (case side3 => repeat (first | exact (Kd.R_reads' HO114.out).2.2 | (with_reducible refine Kd.C_alloc ?_ _) | (with_reducible refine Kd.C_drewN ?_ _) | (with_reducible refine Kd.C_drew ?_))); (case side4 => exact (Kd.R_reads' HO114.out).2.1); rintro e w10 ⟨rfl, hb⟩; refine ⟨_, rfl, ?_⟩; have n0_ := Aside0.mk (Kd.R_below (by (with_reducible repeat (first | apply Kd.R_alloc | apply Kd.R_drewN | apply Kd.R_drew)); exact HO111.out) hb); have n1_ := Aside0.mk (Kd.R_below (by (with_reducible repeat (first | apply Kd.R_alloc | apply Kd.R_drewN | apply Kd.R_drew)); exact HO114.out) hb); have n2_ := Aside0.mk (below_step (by repeat (first | (with_reducible first | exact HB.out | apply below_alloc | apply pw_below_drewN | apply below_drew1) | exact HB.out)) hb); clear HO111; clear HO114; clear HB; have HO111 := n0_; have HO114 := n1_; have HB := n2_; clear n0_ n1_ n2_; (try clear hb); (try clear hb2); (try clear hk); (try clear hi)) | ((with_reducible refine gate_dst (N := 9) rfl ?_); (try (refine gate_guard (by rfl) ?_; dsimp only)); refine Kd.R_lit (Kd.int .i64) _ 2 ?hg (N := 9) ?hd (xs := ([0, (-8)] : List Int)) (inner := [.int .i64 0, .int .i64 (-8)]) (ok := fun _ => True) (okp := fun _ => True) ?hr ?hp (fun _ hk => hk) trivial (Below.refl _ _) (Nat.le_refl _) (by simp) ?_; (case hd => rfl); (case hg => rfl); (case hr => first | (go_simp; done) | (go_simp; rfl)); (case hp => exact (Reps.one (show Kd.M (Kd.int .i64) _ _ _ 0 [.int .i64 0] from rfl) (Reps.one (show Kd.M (Kd.int .i64) _ _ _ (-8) [.int .i64 (-8)] from rfl) (Reps.none _ _)))); intro v117 w11 ho12 hb hg_ hnew_; clear hg_ hnew_; (first | rw [← Ny116.out] at ho12 | (simp only [Int.reduceToNat] at ho12; rw [← Ny116.out] at ho12)); have n0_ := Aside0.mk (Kd.R_below (by (with_reducible repeat (first | apply Kd.R_alloc | apply Kd.R_drewN | apply Kd.R_drew)); exact HO111.out) hb); have n1_ := Aside0.mk (Kd.R_elder' (by (with_reducible repeat (first | apply Kd.R_alloc | apply Kd.R_drewN | apply Kd.R_drew)); exact HO114.out) (Kd.R_base ho12) hb); have n2_ := Aside0.mk (Kd.R_lower (Kd.R_new' ho12 (Kd.R_lt (by (with_reducible repeat (first | apply Kd.R_alloc | apply Kd.R_drewN | apply Kd.R_drew)); exact HO114.out))) (below_size (by repeat (first | (with_reducible first | exact HB.out | apply below_alloc | apply pw_below_drewN | apply below_drew1) | exact HB.out)))); have n3_ := Aside0.mk (below_step (by repeat (first | (with_reducible first | exact HB.out | apply below_alloc | apply pw_below_drewN | apply below_drew1) | exact HB.out)) hb); clear HO111; clear HO114; clear HB; have HO111 := n0_; have HO114 := n1_; have HO118 := n2_; have HB := n3_; clear n0_ n1_ n2_ n3_; clear hb ho12; obtain ⟨Ao13, co13, eo13⟩ := Kd.R_slice HO118.out; subst eo13) | (go_at_call 16; (with_reducible refine (cert_Offsets.calls k 2 _ _ y109 _ _ y116 t119 _ ?side1 ?side2 ?side3 ?side4 A3.out).mono ?_); (case side1 => repeat (first | exact (Kd.R_reads' HO111.out).2.2 | (with_reducible refine Kd.C_alloc ?_ _) | (with_reducible refine Kd.C_drewN ?_ _) | (with_reducible refine Kd.C_drew ?_))); (case side2 => exact (Kd.R_reads' HO111.out).2.1); (case side3 => repeat (first | exact (Kd.R_reads' HO118.out).2.2 | (with_reducible refine Kd.C_alloc ?_ _) | (with_reducible refine Kd.C_drewN ?_ _) | (with_reducible refine Kd.C_drew ?_))); (case side4 => exact (Kd.R_reads' HO118.out).2.1); rintro e w14 ⟨rfl, hb⟩; have n0_ := Aside0.mk (Kd.R_below (by (with_reducible repeat (first | apply Kd.R_alloc | apply Kd.R_drewN | apply Kd.R_drew)); exact HO111.out) hb); have n1_ := Aside0.mk (Kd.R_below (by (with_reducible repeat (first | apply Kd.R_alloc | apply Kd.R_drewN | apply Kd.R_drew)); exact HO114.out) hb); have n2_ := Aside0.mk (Kd.R_below (by (with_reducible repeat (first | apply Kd.R_alloc | apply Kd.R_drewN | apply Kd.R_drew)); exact HO118.out) hb); have n3_ := Aside0.mk (below_step (by repeat (first | (with_reducible first | exact HB.out | apply below_alloc | apply pw_below_drewN | apply below_drew1) | exact HB.out)) hb); clear HO111; clear HO114; clear HO118; clear HB; have HO111 := n0_; have HO114 := n1_; have HO118 := n2_; have HB := n3_; clear n0_ n1_ n2_ n3_; (try clear hb); (try clear hb2); (try clear hk); (try clear hi)))
    go_ret
    exact ⟨by first | rfl | (simp [errW_none, errW_some] <;> rfl) | (simp [*, errW_none, errW_some] <;> rfl), by repeat (first | (with_reducible first | exact HB.out | apply below_alloc | apply pw_below_drewN | apply below_drew1) | exact HB.out)⟩
  · replace c2 := Bool.eq_false_iff.mpr c2
    subst c2
    have H1 : (some false) = some r := by rw [if_neg (show ¬ (false = true) by decide)] at H; exact H
    clear H
    have H := H1
    clear H1
    obtain rfl := Option.some.inj H
    go_enter Try.func15, Try.ntmps15
    go_wp2_with (first | ((with_reducible refine gate_dst (N := 3) rfl ?_); (try (refine gate_guard (by rfl) ?_; dsimp only)); refine Kd.R_lit k48 _ 48 ?hg (N := 3) ?hd (xs := ([(⟨0, 1, (-7), (⟨0, 0⟩ : S46), false⟩ : S48)] : List (S48))) (inner := [.int .i64 0, .int .i64 1, .int .i64 (-7), .int .i64 0, .int .i64 0, .bool false]) (ok := fun _ => True) (okp := fun _ => True) ?hr ?hp (fun _ hk => hk) trivial (Below.refl _ _) (Nat.le_refl _) (by simp) ?_; (case hd => rfl); (case hg => rfl); (case hr => first | (go_simp; done) | (go_simp; rfl)); (case hp => exact (Reps.c6 (show Kd.M k48 _ _ _ (⟨0, 1, (-7), (⟨0, 0⟩ : S46), false⟩ : S48) [.int .i64 0, .int .i64 1, .int .i64 (-7), .int .i64 0, .int .i64 0, .bool false] from (k48_mkM _ _ _ (⟨0, 1, (-7), (⟨0, 0⟩ : S46), false⟩ : S48) )) (Reps.none _ _))); intro v110 w15 ho16 hb hg_ hnew_; clear hg_ hnew_; (first | rw [← Ny109.out] at ho16 | (simp only [Int.reduceToNat] at ho16; rw [← Ny109.out] at ho16)); have n0_ := Aside0.mk (Kd.R_lower ho16 (below_size (by repeat (first | (with_reducible first | exact HB.out | apply below_alloc | apply pw_below_drewN | apply below_drew1) | exact HB.out)))); have n1_ := Aside0.mk (below_step (by repeat (first | (with_reducible first | exact HB.out | apply below_alloc | apply pw_below_drewN | apply below_drew1) | exact HB.out)) hb); clear HB; have HO111 := n0_; have HB := n1_; clear n0_ n1_; clear hb ho16) | ((with_reducible refine gate_dst (N := 5) rfl ?_); (try (refine gate_guard (by rfl) ?_; dsimp only)); refine Kd.R_lit (Kd.int .i64) _ 2 ?hg (N := 5) ?hd (xs := ([0, (-7)] : List Int)) (inner := [.int .i64 0, .int .i64 (-7)]) (ok := fun _ => True) (okp := fun _ => True) ?hr ?hp (fun _ hk => hk) trivial (Below.refl _ _) (Nat.le_refl _) (by simp) ?_; (case hd => rfl); (case hg => rfl); (case hr => first | (go_simp; done) | (go_simp; rfl)); (case hp => exact (Reps.one (show Kd.M (Kd.int .i64) _ _ _ 0 [.int .i64 0] from rfl) (Reps.one (show Kd.M (Kd.int .i64) _ _ _ (-7) [.int .i64 (-7)] from rfl) (Reps.none _ _)))); intro v113 w17 ho18 hb hg_ hnew_; clear hg_ hnew_; (first | rw [← Ny112.out] at ho18 | (simp only [Int.reduceToNat] at ho18; rw [← Ny112.out] at ho18)); have n0_ := Aside0.mk (Kd.R_below (by (with_reducible repeat (first | apply Kd.R_alloc | apply Kd.R_drewN | apply Kd.R_drew)); exact HO111.out) hb); have n1_ := Aside0.mk (Kd.R_lower ho18 (below_size (by repeat (first | (with_reducible first | exact HB.out | apply below_alloc | apply pw_below_drewN | apply below_drew1) | exact HB.out)))); have n2_ := Aside0.mk (below_step (by repeat (first | (with_reducible first | exact HB.out | apply below_alloc | apply pw_below_drewN | apply below_drew1) | exact HB.out)) hb); clear HO111; clear HB; have HO111 := n0_; have HO114 := n1_; have HB := n2_; clear n0_ n1_ n2_; clear hb ho18; obtain ⟨Ao19, co19, eo19⟩ := Kd.R_slice HO111.out; subst eo19; obtain ⟨Ao20, co20, eo20⟩ := Kd.R_slice HO114.out; subst eo20) | ((with_reducible refine gate_callee (f := 16) rfl ?_); refine goesL_ (some 6) rfl rfl Try.func16 (by kernel_rfl) rfl #[.int .i64 2, .slice Ao19 y109.length co19, .slice Ao20 y112.length co20] rfl (by (try simp only [List.map_toArray, List.map_cons, List.map_nil]); first | done | rfl | (simp only [List.length_drop, List.length_take]; rfl)) ?_; (with_reducible refine (cert_Offsets.calls k 2 _ _ y109 _ _ y112 false _ ?side1 ?side2 ?side3 ?side4 A1.out).mono ?_); (case side1 => repeat (first | exact (Kd.R_reads' HO111.out).2.2 | (with_reducible refine Kd.C_alloc ?_ _) | (with_reducible refine Kd.C_drewN ?_ _) | (with_reducible refine Kd.C_drew ?_))); (case side2 => exact (Kd.R_reads' HO111.out).2.1); (case side3 => repeat (first | exact (Kd.R_reads' HO114.out).2.2 | (with_reducible refine Kd.C_alloc ?_ _) | (with_reducible refine Kd.C_drewN ?_ _) | (with_reducible refine Kd.C_drew ?_))); (case side4 => exact (Kd.R_reads' HO114.out).2.1); rintro e w21 ⟨rfl, hb⟩; refine ⟨_, rfl, ?_⟩; have n0_ := Aside0.mk (Kd.R_below (by (with_reducible repeat (first | apply Kd.R_alloc | apply Kd.R_drewN | apply Kd.R_drew)); exact HO111.out) hb); have n1_ := Aside0.mk (Kd.R_below (by (with_reducible repeat (first | apply Kd.R_alloc | apply Kd.R_drewN | apply Kd.R_drew)); exact HO114.out) hb); have n2_ := Aside0.mk (below_step (by repeat (first | (with_reducible first | exact HB.out | apply below_alloc | apply pw_below_drewN | apply below_drew1) | exact HB.out)) hb); clear HO111; clear HO114; clear HB; have HO111 := n0_; have HO114 := n1_; have HB := n2_; clear n0_ n1_ n2_; (try clear hb); (try clear hb2); (try clear hk); (try clear hi)))
    go_ret
    exact ⟨by first | rfl | (simp [errW_none, errW_some] <;> rfl) | (simp [*, errW_none, errW_some] <;> rfl), by repeat (first | (with_reducible first | exact HB.out | apply below_alloc | apply pw_below_drewN | apply below_drew1) | exact HB.out)⟩

/-! ### api_Edge_52: function 52 -/
def api_Edge_52.l0 : Nat → List (S48) → Int → Int → Int → Int → Int → Int → Int → Bool → Option (Int)
  | 0, _, _, _, _, _, _, _, _, _ => none
  | k + 1, x0, x7, x8, x121000, x121001, x121002, x121003, x121004, x121005 => if x8 < x7 then (if 0 ≤ x8 then (if x8 < (x0.length : Int) then (if (x121000 == ((rd_T48 x0 x8).f0) && (x121001 == ((rd_T48 x0 x8).f1) && (x121002 == ((rd_T48 x0 x8).f2) && ((x121003 == ((rd_T48 x0 x8).f3.f0) && (x121004 == ((rd_T48 x0 x8).f3.f1))) && (x121005 == ((rd_T48 x0 x8).f4)))))) = true then (some x8) else (api_Edge_52.l0 k x0 x7 (wrap64 (x8 + 1)) x121000 x121001 x121002 x121003 x121004 x121005)) else (none)) else (none)) else (some (-1))
def api_Edge_52.f (k : Nat) (l0 : List (S48)) (a1_0 : Int) (a1_1 : Int) (a1_2 : Int) (a1_3 : Int) (a1_4 : Int) (a1_5 : Bool) : Option (Int) := api_Edge_52.l0 k l0 (l0.length : Int) 0 a1_0 a1_1 a1_2 a1_3 a1_4 a1_5
theorem api_Edge_52.mono_l : ∀ k, (∀ y0 y1 y2 y3 y4 y5 y6 y7 y8, LeO (api_Edge_52.l0 k y0 y1 y2 y3 y4 y5 y6 y7 y8) (api_Edge_52.l0 (k + 1) y0 y1 y2 y3 y4 y5 y6 y7 y8))
  | 0 => fun _ _ _ _ _ _ _ _ _ r h => by simp [api_Edge_52.l0] at h
  | k + 1 => by
    have ih0 := api_Edge_52.mono_l k
    · intro y0 y1 y2 y3 y4 y5 y6 y7 y8
      unfold api_Edge_52.l0
      repeat' first
      | (with_reducible exact ih0 _ _ _ _ _ _ _ _ _)
      | (with_reducible exact LeO.refl _)
      | (with_reducible exact LeO.none _)
      | (with_reducible refine LeO.ite ?_ ?_)
      | (with_reducible refine LeO.bind ?_ (fun _ => ?_))
      | exact ih0 _ _ _ _ _ _ _ _ _
      | exact LeO.none _
      | refine LeO.ite ?_ ?_
      | refine LeO.bind ?_ (fun _ => ?_)
theorem api_Edge_52.mono : ∀ a0 a1 a2 a3 a4 a5 a6 k, LeO (api_Edge_52.f k a0 a1 a2 a3 a4 a5 a6) (api_Edge_52.f (k + 1) a0 a1 a2 a3 a4 a5 a6) := by
  intro a0 a1 a2 a3 a4 a5 a6 k
  have ih0 := api_Edge_52.mono_l k
  unfold api_Edge_52.f
  repeat' first
      | (with_reducible exact ih0 _ _ _ _ _ _ _ _ _)
      | (with_reducible exact LeO.refl _)
      | (with_reducible exact LeO.none _)
      | (with_reducible refine LeO.ite ?_ ?_)
      | (with_reducible refine LeO.bind ?_ (fun _ => ?_))
      | exact ih0 _ _ _ _ _ _ _ _ _
      | exact LeO.none _
      | refine LeO.ite ?_ ?_
      | refine LeO.bind ?_ (fun _ => ?_)
set_option maxHeartbeats 8000000 in
set_option maxRecDepth 100000 in
theorem api_Edge_52.calls (k : Nat) (A0 : Option Addr) (c0 : Nat) (l0 : List (S48)) (a1_0 : Int) (a1_1 : Int) (a1_2 : Int) (a1_3 : Int) (a1_4 : Int) (a1_5 : Bool) (r : Int) (w : World) (hr0 : Kd.C k48 w A0 l0.length l0) (hc0 : l0.length ≤ c0) (h : api_Edge_52.f k l0 a1_0 a1_1 a1_2 a1_3 a1_4 a1_5 = some r) :
    Calls Try.prog 52 #[.slice A0 l0.length c0, .agg #[.int .i64 a1_0, .int .i64 a1_1, .int .i64 a1_2, .int .i64 a1_3, .int .i64 a1_4, .bool a1_5]] w fun e w' => e = .returned (.int .i64 r) ∧ Below w.heap.size w w' := by
  have hu48 := Try.underlying48
  have HR0 := Aside0.mk hr0
  have HC0 := Aside0.mk hc0
  clear hr0 hc0
  have HB := Aside0.mk (Below.refl w.heap.size w)
  have H : (api_Edge_52.l0 k l0 (l0.length : Int) 0 a1_0 a1_1 a1_2 a1_3 a1_4 a1_5) = some r := h
  clear h
  have H' := Aside0.mk H
  clear H
  go_enter Try.func52, Try.ntmps52
  go_wp2_with (first | ((with_reducible refine gate_dst (N := 3) rfl ?_); refine box_event ?hg (N := 3) ?hd (cs := #[.int .i64 a1_0, .int .i64 a1_1, .int .i64 a1_2, .int .i64 a1_3, .int .i64 a1_4, .bool a1_5]) (t := 48) ?hr ?_; (case hd => rfl); (case hg => rfl); (case hr => first | (go_simp; done) | (go_simp; rfl)); intro gb120 hg w3 hbox hb; have n0_ := Aside0.mk (below_step (by repeat (first | (with_reducible first | exact HB.out | apply below_alloc | apply pw_below_drewN | apply below_drew1) | exact HB.out)) hb); have n1_ := Aside0.mk (hbox); have n2_ := Aside0.mk ((by rw [hg]; exact (below_size (by repeat (first | (with_reducible first | exact HB.out | apply below_alloc | apply pw_below_drewN | apply below_drew1) | exact HB.out))) : w.heap.size ≤ gb120)); have n3_ := Aside0.mk ((by rw [hg]; exact (below_size (by repeat (first | (with_reducible first | exact HB.out | apply below_alloc | apply pw_below_drewN | apply below_drew1) | exact HB.out))) : w.heap.size ≤ gb120)); clear HB; have HB := n0_; have BK120 := n1_; have GW120 := n2_; have GE120 := n3_; clear n0_ n1_ n2_ n3_; clear hb hbox hg))
  repeat (go_quiet (first | ((with_reducible refine gate_dst (N := 3) rfl ?_); refine box_event ?hg (N := 3) ?hd (cs := #[.int .i64 a1_0, .int .i64 a1_1, .int .i64 a1_2, .int .i64 a1_3, .int .i64 a1_4, .bool a1_5]) (t := 48) ?hr ?_; (case hd => rfl); (case hg => rfl); (case hr => first | (go_simp; done) | (go_simp; rfl)); intro gb120 hg w3 hbox hb; have n0_ := Aside0.mk (below_step (by repeat (first | (with_reducible first | exact HB.out | apply below_alloc | apply pw_below_drewN | apply below_drew1) | exact HB.out)) hb); have n1_ := Aside0.mk (hbox); have n2_ := Aside0.mk ((by rw [hg]; exact (below_size (by repeat (first | (with_reducible first | exact HB.out | apply below_alloc | apply pw_below_drewN | apply below_drew1) | exact HB.out))) : w.heap.size ≤ gb120)); have n3_ := Aside0.mk ((by rw [hg]; exact (below_size (by repeat (first | (with_reducible first | exact HB.out | apply below_alloc | apply pw_below_drewN | apply below_drew1) | exact HB.out))) : w.heap.size ≤ gb120)); clear HB; have HB := n0_; have BK120 := n1_; have GW120 := n2_; have GE120 := n3_; clear n0_ n1_ n2_ n3_; clear hb hbox hg)); try go_wp2_with (first | ((with_reducible refine gate_dst (N := 3) rfl ?_); refine box_event ?hg (N := 3) ?hd (cs := #[.int .i64 a1_0, .int .i64 a1_1, .int .i64 a1_2, .int .i64 a1_3, .int .i64 a1_4, .bool a1_5]) (t := 48) ?hr ?_; (case hd => rfl); (case hg => rfl); (case hr => first | (go_simp; done) | (go_simp; rfl)); intro gb120 hg w3 hbox hb; have n0_ := Aside0.mk (below_step (by repeat (first | (with_reducible first | exact HB.out | apply below_alloc | apply pw_below_drewN | apply below_drew1) | exact HB.out)) hb); have n1_ := Aside0.mk (hbox); have n2_ := Aside0.mk ((by rw [hg]; exact (below_size (by repeat (first | (with_reducible first | exact HB.out | apply below_alloc | apply pw_below_drewN | apply below_drew1) | exact HB.out))) : w.heap.size ≤ gb120)); have n3_ := Aside0.mk ((by rw [hg]; exact (below_size (by repeat (first | (with_reducible first | exact HB.out | apply below_alloc | apply pw_below_drewN | apply below_drew1) | exact HB.out))) : w.heap.size ≤ gb120)); clear HB; have HB := n0_; have BK120 := n1_; have GW120 := n2_; have GE120 := n3_; clear n0_ n1_ n2_ n3_; clear hb hbox hg)))
  go_loopg [8] k (fun kq v8 w' => ∃ (x8_1 : Int), v8 = .int .i64 x8_1 ∧ Aside0 (api_Edge_52.l0 kq l0 (l0.length : Int) x8_1 a1_0 a1_1 a1_2 a1_3 a1_4 a1_5 = some r) ∧ Aside0 (kq ≤ k) ∧ Aside0 (w'.heap[gb120]? = some (.cells #[.int .i64 a1_0, .int .i64 a1_1, .int .i64 a1_2, .int .i64 a1_3, .int .i64 a1_4, .bool a1_5] 48 (0, 0))) ∧ Aside0 (Below w.heap.size w w'))
  case atStart => exact ⟨(0), (by first | rfl | (simp; done) | (simp [*]; done)), H', ⟨Nat.le_refl _⟩, ⟨by (with_reducible repeat (first | refine blk_drewN ?_ _ | refine blk_drew ?_ | refine blk_alloc ?_ _)); exact BK120.out⟩, ⟨by repeat (first | (with_reducible first | exact HB.out | apply below_alloc | apply pw_below_drewN | apply below_drew1 | refine below_set ?_ GE120.out) | exact HB.out)⟩⟩
  case round =>
    clear H'
    try clear p2
    obtain ⟨x8_1, rfl, HA, HK1, BK120, HB⟩ := hrel
    cases gk with
    | zero => exact absurd HA.out (by simp [api_Edge_52.l0])
    | succ k1 =>
      have H := HA.out
      clear HA
      simp only [api_Edge_52.l0] at H
      by_cases c4 : x8_1 < (l0.length : Int)
      · rw [if_pos c4] at H
        have c4b0 : decide (x8_1 < (l0.length : Int)) = true := decide_eq_true c4
        clear c4
        by_cases c5 : 0 ≤ x8_1
        · rw [if_pos c5] at H
          have c5b0 : decide (0 ≤ x8_1) = true := decide_eq_true c5
          clear c5
          by_cases c6 : x8_1 < (l0.length : Int)
          · rw [if_pos c6] at H
            have c6b0 : decide (x8_1 < (l0.length : Int)) = true := decide_eq_true c6
            clear c6
            by_cases c7 : (a1_0 == ((rd_T48 l0 x8_1).f0) && (a1_1 == ((rd_T48 l0 x8_1).f1) && (a1_2 == ((rd_T48 l0 x8_1).f2) && ((a1_3 == ((rd_T48 l0 x8_1).f3.f0) && (a1_4 == ((rd_T48 l0 x8_1).f3.f1))) && (a1_5 == ((rd_T48 l0 x8_1).f4)))))) = true
            · rw [if_pos c7] at H
              have c7b0 : (a1_0 == ((rd_T48 l0 x8_1).f0) && (a1_1 == ((rd_T48 l0 x8_1).f1) && (a1_2 == ((rd_T48 l0 x8_1).f2) && ((a1_3 == ((rd_T48 l0 x8_1).f3.f0) && (a1_4 == ((rd_T48 l0 x8_1).f3.f1))) && (a1_5 == ((rd_T48 l0 x8_1).f4)))))) = true := c7
              (try (have c7b1 : decide (a1_0 = ((rd_T48 l0 x8_1).f0) && (a1_1 == ((rd_T48 l0 x8_1).f1) && (a1_2 == ((rd_T48 l0 x8_1).f2) && ((a1_3 == ((rd_T48 l0 x8_1).f3.f0) && (a1_4 == ((rd_T48 l0 x8_1).f3.f1))) && (a1_5 == ((rd_T48 l0 x8_1).f4)))))) = true := by simpa using c7))
              (try (have c7b2 : (a1_0 == ((rd_T48 l0 x8_1).f0) && (a1_1 == ((rd_T48 l0 x8_1).f1) && (a1_2 == ((rd_T48 l0 x8_1).f2) && ((a1_3 == ((rd_T48 l0 x8_1).f3.f0) && (a1_4 == ((rd_T48 l0 x8_1).f3.f1))) && (a1_5 == ((rd_T48 l0 x8_1).f4)))))) = true := by simpa using c7))
              clear c7
              obtain rfl := Option.some.inj H
              have hcz8_0 : wr.cell? ⟨gb120, 0, none⟩ = some (.int .i64 a1_0) := (blk_cell BK120.out 0).trans rfl
              have hcz8_1 : wr.cell? ⟨gb120, 1, none⟩ = some (.int .i64 a1_1) := (blk_cell BK120.out 1).trans rfl
              have hcz8_2 : wr.cell? ⟨gb120, 2, none⟩ = some (.int .i64 a1_2) := (blk_cell BK120.out 2).trans rfl
              have hcz8_3 : wr.cell? ⟨gb120, 3, none⟩ = some (.int .i64 a1_3) := (blk_cell BK120.out 3).trans rfl
              have hcz8_4 : wr.cell? ⟨gb120, 4, none⟩ = some (.int .i64 a1_4) := (blk_cell BK120.out 4).trans rfl
              have hcz8_5 : wr.cell? ⟨gb120, 5, none⟩ = some (.bool a1_5) := (blk_cell BK120.out 5).trans rfl
              have hfz8_0 := blk_frozen BK120.out 0
              have hfz8_1 := blk_frozen BK120.out 1
              have hfz8_2 := blk_frozen BK120.out 2
              have hfz8_3 := blk_frozen BK120.out 3
              have hfz8_4 := blk_frozen BK120.out 4
              have hfz8_5 := blk_frozen BK120.out 5
              have p121 : 0 ≤ (x8_1 : Int) := of_decide_eq_true (by first | (with_reducible assumption) | assumption)
              have q121 : x8_1 < (l0.length : Int) := of_decide_eq_true (by first | (with_reducible assumption) | assumption)
              obtain ⟨ad121, e121, hx121_0, hx121_1, hx121_2, hx121_3, hx121_4, hx121_5⟩ := at_T48 HR0.out x8_1 p121 q121
              cases e121
              replace hx121_0 := (HB.out.cell (World.block_lt_of_cell? w _ hx121_0)).trans hx121_0
              replace hx121_1 := (HB.out.cell (World.block_lt_of_cell? w _ hx121_1)).trans hx121_1
              replace hx121_2 := (HB.out.cell (World.block_lt_of_cell? w _ hx121_2)).trans hx121_2
              replace hx121_3 := (HB.out.cell (World.block_lt_of_cell? w _ hx121_3)).trans hx121_3
              replace hx121_4 := (HB.out.cell (World.block_lt_of_cell? w _ hx121_4)).trans hx121_4
              replace hx121_5 := (HB.out.cell (World.block_lt_of_cell? w _ hx121_5)).trans hx121_5
              replace p121 := eq_true p121
              replace q121 := eq_true q121
              go_wp2
              repeat (go_quiet (fail); try go_wp2)
              go_ret
              exact ⟨by first | rfl | (simp [errW_none, errW_some] <;> rfl) | (simp [*, errW_none, errW_some] <;> rfl), by repeat (first | (with_reducible first | exact HB.out | apply below_alloc | apply pw_below_drewN | apply below_drew1 | refine below_set ?_ GE120.out) | exact HB.out)⟩
            · rw [if_neg c7] at H
              have c7b0 : (a1_0 == ((rd_T48 l0 x8_1).f0) && (a1_1 == ((rd_T48 l0 x8_1).f1) && (a1_2 == ((rd_T48 l0 x8_1).f2) && ((a1_3 == ((rd_T48 l0 x8_1).f3.f0) && (a1_4 == ((rd_T48 l0 x8_1).f3.f1))) && (a1_5 == ((rd_T48 l0 x8_1).f4)))))) = false := by simpa using c7
              (try (have c7b1 : decide (a1_0 = ((rd_T48 l0 x8_1).f0) && (a1_1 == ((rd_T48 l0 x8_1).f1) && (a1_2 == ((rd_T48 l0 x8_1).f2) && ((a1_3 == ((rd_T48 l0 x8_1).f3.f0) && (a1_4 == ((rd_T48 l0 x8_1).f3.f1))) && (a1_5 == ((rd_T48 l0 x8_1).f4)))))) = false := by simpa using c7))
              (try (have c7b2 : (a1_0 == ((rd_T48 l0 x8_1).f0) && (a1_1 == ((rd_T48 l0 x8_1).f1) && (a1_2 == ((rd_T48 l0 x8_1).f2) && ((a1_3 == ((rd_T48 l0 x8_1).f3.f0) && (a1_4 == ((rd_T48 l0 x8_1).f3.f1))) && (a1_5 == ((rd_T48 l0 x8_1).f4)))))) = false := by simpa using c7))
              (try (have c7b3 : ¬ (a1_0 = ((rd_T48 l0 x8_1).f0) && (a1_1 == ((rd_T48 l0 x8_1).f1) && (a1_2 == ((rd_T48 l0 x8_1).f2) && ((a1_3 == ((rd_T48 l0 x8_1).f3.f0) && (a1_4 == ((rd_T48 l0 x8_1).f3.f1))) && (a1_5 == ((rd_T48 l0 x8_1).f4)))))) := by simpa using c7))
              clear c7
              have H' := Aside0.mk H
              clear H
              have hcz9_0 : wr.cell? ⟨gb120, 0, none⟩ = some (.int .i64 a1_0) := (blk_cell BK120.out 0).trans rfl
              have hcz9_1 : wr.cell? ⟨gb120, 1, none⟩ = some (.int .i64 a1_1) := (blk_cell BK120.out 1).trans rfl
              have hcz9_2 : wr.cell? ⟨gb120, 2, none⟩ = some (.int .i64 a1_2) := (blk_cell BK120.out 2).trans rfl
              have hcz9_3 : wr.cell? ⟨gb120, 3, none⟩ = some (.int .i64 a1_3) := (blk_cell BK120.out 3).trans rfl
              have hcz9_4 : wr.cell? ⟨gb120, 4, none⟩ = some (.int .i64 a1_4) := (blk_cell BK120.out 4).trans rfl
              have hcz9_5 : wr.cell? ⟨gb120, 5, none⟩ = some (.bool a1_5) := (blk_cell BK120.out 5).trans rfl
              have hfz9_0 := blk_frozen BK120.out 0
              have hfz9_1 := blk_frozen BK120.out 1
              have hfz9_2 := blk_frozen BK120.out 2
              have hfz9_3 := blk_frozen BK120.out 3
              have hfz9_4 := blk_frozen BK120.out 4
              have hfz9_5 := blk_frozen BK120.out 5
              have p121 : 0 ≤ (x8_1 : Int) := of_decide_eq_true (by first | (with_reducible assumption) | assumption)
              have q121 : x8_1 < (l0.length : Int) := of_decide_eq_true (by first | (with_reducible assumption) | assumption)
              obtain ⟨ad121, e121, hx121_0, hx121_1, hx121_2, hx121_3, hx121_4, hx121_5⟩ := at_T48 HR0.out x8_1 p121 q121
              cases e121
              replace hx121_0 := (HB.out.cell (World.block_lt_of_cell? w _ hx121_0)).trans hx121_0
              replace hx121_1 := (HB.out.cell (World.block_lt_of_cell? w _ hx121_1)).trans hx121_1
              replace hx121_2 := (HB.out.cell (World.block_lt_of_cell? w _ hx121_2)).trans hx121_2
              replace hx121_3 := (HB.out.cell (World.block_lt_of_cell? w _ hx121_3)).trans hx121_3
              replace hx121_4 := (HB.out.cell (World.block_lt_of_cell? w _ hx121_4)).trans hx121_4
              replace hx121_5 := (HB.out.cell (World.block_lt_of_cell? w _ hx121_5)).trans hx121_5
              replace p121 := eq_true p121
              replace q121 := eq_true q121
              go_wp2
              repeat (go_quiet (fail); try go_wp2)
              go_roundg k1
              case measure => have := HK1.out; omega
              case rel => exact ⟨(wrap64 (x8_1 + 1)), (by first | rfl | (simp; done) | (simp [*]; done)), H', ⟨by have := HK1.out; omega⟩, ⟨by (with_reducible repeat (first | refine blk_drewN ?_ _ | refine blk_drew ?_ | refine blk_alloc ?_ _)); exact BK120.out⟩, ⟨by repeat (first | (with_reducible first | exact HB.out | apply below_alloc | apply pw_below_drewN | apply below_drew1 | refine below_set ?_ GE120.out) | exact HB.out)⟩⟩
          · rw [if_neg c6] at H
            exact absurd H (by simp)
        · rw [if_neg c5] at H
          exact absurd H (by simp)
      · rw [if_neg c4] at H
        have c4b0 : decide (x8_1 < (l0.length : Int)) = false := decide_eq_false c4
        clear c4
        obtain rfl := Option.some.inj H
        go_wp2
        repeat (go_quiet (fail); try go_wp2)
        go_ret
        exact ⟨by first | rfl | (simp [errW_none, errW_some] <;> rfl) | (simp [*, errW_none, errW_some] <;> rfl), by repeat (first | (with_reducible first | exact HB.out | apply below_alloc | apply pw_below_drewN | apply below_drew1 | refine below_set ?_ GE120.out) | exact HB.out)⟩

/-! ### api_Edge_37: function 37 -/
def api_Edge_37.f (k : Nat) (l0 : List (S48)) (a1_0 : Int) (a1_1 : Int) (a1_2 : Int) (a1_3 : Int) (a1_4 : Int) (a1_5 : Bool) : Option (Bool) := (api_Edge_52.f k l0 a1_0 a1_1 a1_2 a1_3 a1_4 a1_5).bind fun t123 => (some (decide (t123 ≥ 0)))
theorem api_Edge_37.mono : ∀ a0 a1 a2 a3 a4 a5 a6 k, LeO (api_Edge_37.f k a0 a1 a2 a3 a4 a5 a6) (api_Edge_37.f (k + 1) a0 a1 a2 a3 a4 a5 a6) := by
  intro a0 a1 a2 a3 a4 a5 a6 k
  unfold api_Edge_37.f
  repeat' first
      | (with_reducible exact api_Edge_52.mono _ _ _ _ _ _ _ _)
      | (with_reducible exact LeO.refl _)
      | (with_reducible exact LeO.none _)
      | (with_reducible refine LeO.ite ?_ ?_)
      | (with_reducible refine LeO.bind ?_ (fun _ => ?_))
      | exact api_Edge_52.mono _ _ _ _ _ _ _ _
      | exact LeO.none _
      | refine LeO.ite ?_ ?_
      | refine LeO.bind ?_ (fun _ => ?_)
set_option maxHeartbeats 8000000 in
set_option maxRecDepth 100000 in
theorem api_Edge_37.calls (k : Nat) (A0 : Option Addr) (c0 : Nat) (l0 : List (S48)) (a1_0 : Int) (a1_1 : Int) (a1_2 : Int) (a1_3 : Int) (a1_4 : Int) (a1_5 : Bool) (r : Bool) (w : World) (hr0 : Kd.C k48 w A0 l0.length l0) (hc0 : l0.length ≤ c0) (h : api_Edge_37.f k l0 a1_0 a1_1 a1_2 a1_3 a1_4 a1_5 = some r) :
    Calls Try.prog 37 #[.slice A0 l0.length c0, .agg #[.int .i64 a1_0, .int .i64 a1_1, .int .i64 a1_2, .int .i64 a1_3, .int .i64 a1_4, .bool a1_5]] w fun e w' => e = .returned (.bool r) ∧ Below w.heap.size w w' := by
  have hu48 := Try.underlying48
  have HR0 := Aside0.mk hr0
  have HC0 := Aside0.mk hc0
  clear hr0 hc0
  have HB := Aside0.mk (Below.refl w.heap.size w)
  have H : ((api_Edge_52.f k l0 a1_0 a1_1 a1_2 a1_3 a1_4 a1_5).bind fun t123 => (some (decide (t123 ≥ 0)))) = some r := h
  clear h
  replace H := Option.bind_eq_some_iff.mp H
  obtain ⟨t123, A30, H⟩ := H
  replace H : (some (decide (t123 ≥ 0))) = some r := H
  have A3 := Aside0.mk A30
  clear A30
  obtain rfl := Option.some.inj H
  go_enter Try.func37, Try.ntmps37
  go_wp2_with (first | ((with_reducible refine gate_dst (N := 3) rfl ?_); refine box_event ?hg (N := 3) ?hd (cs := #[.int .i64 a1_0, .int .i64 a1_1, .int .i64 a1_2, .int .i64 a1_3, .int .i64 a1_4, .bool a1_5]) (t := 48) ?hr ?_; (case hd => rfl); (case hg => rfl); (case hr => first | (go_simp; done) | (go_simp; rfl)); intro gb122 hg w4 hbox hb; have n0_ := Aside0.mk (below_step (by repeat (first | (with_reducible first | exact HB.out | apply below_alloc | apply pw_below_drewN | apply below_drew1) | exact HB.out)) hb); have n1_ := Aside0.mk (hbox); have n2_ := Aside0.mk ((by rw [hg]; exact (below_size (by repeat (first | (with_reducible first | exact HB.out | apply below_alloc | apply pw_below_drewN | apply below_drew1) | exact HB.out))) : w.heap.size ≤ gb122)); have n3_ := Aside0.mk ((by rw [hg]; exact (below_size (by repeat (first | (with_reducible first | exact HB.out | apply below_alloc | apply pw_below_drewN | apply below_drew1) | exact HB.out))) : w.heap.size ≤ gb122)); clear HB; have HB := n0_; have BK122 := n1_; have GW122 := n2_; have GE122 := n3_; clear n0_ n1_ n2_ n3_; clear hb hbox hg; have hcz5_0 : w4.cell? ⟨gb122, 0, none⟩ = some (.int .i64 a1_0) := (blk_cell BK122.out 0).trans rfl; have hcz5_1 : w4.cell? ⟨gb122, 1, none⟩ = some (.int .i64 a1_1) := (blk_cell BK122.out 1).trans rfl; have hcz5_2 : w4.cell? ⟨gb122, 2, none⟩ = some (.int .i64 a1_2) := (blk_cell BK122.out 2).trans rfl; have hcz5_3 : w4.cell? ⟨gb122, 3, none⟩ = some (.int .i64 a1_3) := (blk_cell BK122.out 3).trans rfl; have hcz5_4 : w4.cell? ⟨gb122, 4, none⟩ = some (.int .i64 a1_4) := (blk_cell BK122.out 4).trans rfl; have hcz5_5 : w4.cell? ⟨gb122, 5, none⟩ = some (.bool a1_5) := (blk_cell BK122.out 5).trans rfl; have hfz5_0 := blk_frozen BK122.out 0; have hfz5_1 := blk_frozen BK122.out 1; have hfz5_2 := blk_frozen BK122.out 2; have hfz5_3 := blk_frozen BK122.out 3; have hfz5_4 := blk_frozen BK122.out 4; have hfz5_5 := blk_frozen BK122.out 5) | ((with_reducible refine gate_callee (f := 52) rfl ?_); refine goesL_ (some 7) rfl rfl Try.func52 (by kernel_rfl) rfl #[.slice A0 l0.length c0, .agg #[.int .i64 a1_0, .int .i64 a1_1, .int .i64 a1_2, .int .i64 a1_3, .int .i64 a1_4, .bool a1_5]] rfl (by (try simp only [List.map_toArray, List.map_cons, List.map_nil]); first | done | rfl | (simp only [List.length_drop, List.length_take]; rfl)) ?_; (with_reducible refine (api_Edge_52.calls k _ _ l0 a1_0 a1_1 a1_2 a1_3 a1_4 a1_5 t123 _ ?side1 ?side2 A3.out).mono ?_); (case side1 => repeat (first | exact (Kd.C_below HR0.out HB.out) | (with_reducible refine Kd.C_alloc ?_ _) | (with_reducible refine Kd.C_drewN ?_ _) | (with_reducible refine Kd.C_drew ?_))); (case side2 => exact HC0.out); rintro e w6 ⟨rfl, hb⟩; refine ⟨_, rfl, ?_⟩; have n0_ := Aside0.mk (blk_below (g := gb122) (o := .cells #[.int .i64 a1_0, .int .i64 a1_1, .int .i64 a1_2, .int .i64 a1_3, .int .i64 a1_4, .bool a1_5] 48 (0, 0)) (by (with_reducible repeat (first | refine blk_drewN ?_ _ | refine blk_drew ?_ | refine blk_alloc ?_ _)); exact BK122.out) hb); have n1_ := Aside0.mk (below_step (by repeat (first | (with_reducible first | exact HB.out | apply below_alloc | apply pw_below_drewN | apply below_drew1 | refine below_set ?_ GE122.out) | exact HB.out)) hb); clear BK122; clear HB; have BK122 := n0_; have HB := n1_; clear n0_ n1_; (try clear hb); (try clear hb2); (try clear hk); (try clear hi)))
  go_ret
  exact ⟨by first | rfl | (simp [errW_none, errW_some] <;> rfl) | (simp [*, errW_none, errW_some] <;> rfl), by repeat (first | (with_reducible first | exact HB.out | apply below_alloc | apply pw_below_drewN | apply below_drew1 | refine below_set ?_ GE122.out) | exact HB.out)⟩

end Go.Proofs.Ytacjlaiddnfpdaa.CE
