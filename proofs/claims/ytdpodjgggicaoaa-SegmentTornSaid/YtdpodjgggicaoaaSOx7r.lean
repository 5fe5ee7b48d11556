-- WRITTEN FOR THIS CLAIM by wip/tools/mp.py, a program of this project that drives the kit's print; the functions that the print does not take are this project's own texts.
import Derived.Test.YtdpodjgggicaoaaSOx0r
import Derived.Test.YtdpodjgggicaoaaSOx1r
import Derived.Test.YtdpodjgggicaoaaSOx3r
import Derived.Test.YtdpodjgggicaoaaSOx4r
import Derived.Test.YtdpodjgggicaoaaSOx5r
import Derived.Test.YtdpodjgggicaoaaSOx6r
namespace Go.Proofs.Ytdpodjgggicaoaa.SO
open Go.RowKit Go.Proofs.YtdpodjgggicaoaaW.PrintWords Go.Proofs.YtdpodjgggicaoaaW.PrintLast Go.Proofs.YtdpodjgggicaoaaW.PrintMore
attribute [local go_sem] max2_int min2_int max_two min_two max_three min_three max_four min_four   -- for this text's walks alone
set_option linter.unusedVariables false
set_option linter.unusedSimpArgs false
def merkhetlaw07_SegmentTorn_fix (k : Nat) : Option Bool := (merkhetlaw07_fixed.f k).bind fun y => if y = true then some true else none
def merkhetlaw07_SegmentTorn_go (k : Nat) : List (List (S77)) → List Int → List Int → Option (List Int × List Int × Bool)
  | [], b, es => some (b, es, false)
  | x :: r, b, es => if (x.length : Int) > 4 then some (b, es, true) else (merkhetlaw04_Great.f k x).bind fun g => if g = true then some (b, es, true) else (wire_Put.f k x).bind fun p => if p.2 = 0 then ((frame_Put.f k p.1).bind fun y => if y.2 = 0 ∧ (b ++ y.1).length ≤ 100000 then merkhetlaw07_SegmentTorn_go k r (b ++ y.1) (es ++ [((b ++ y.1).length : Int)]) else none) else some (b, es, true)
def merkhetlaw07_SegmentTorn_ends (cut kk : Int) : List Int → Nat → Int → Nat × Int
  | [], m, g => (m, g)
  | e :: r, m, g => if e ≤ cut ∧ (m : Int) < kk then merkhetlaw07_SegmentTorn_ends cut kk r (m + 1) e else merkhetlaw07_SegmentTorn_ends cut kk r m g
instance merkhetlaw07_SegmentTorn_dec : DecidableEq S77 := fun a b => decidable_of_iff (a.f0 = b.f0 ∧ a.f1 = b.f1 ∧ a.f2 = b.f2 ∧ a.f3 = b.f3 ∧ a.f4 = b.f4 ∧ a.f5 = b.f5 ∧ a.f6 = b.f6 ∧ a.f7 = b.f7) ⟨fun h => by cases a; cases b; simp_all, fun h => by subst h; exact ⟨rfl, rfl, rfl, rfl, rfl, rfl, rfl, rfl⟩⟩
def merkhetlaw07_SegmentTorn_gets (k : Nat) : List (List Int) → List (List (S77)) → Option Bool
  | [], _ => some true
  | _ :: _, [] => none
  | b :: bs, x :: r => (wire_Get.f k b).bind fun p => if p.2 = 0 ∧ p.1.length = x.length ∧ 0 < x.length ∧ p.1.head? = x.head? then merkhetlaw07_SegmentTorn_gets k bs r else none
def merkhetlaw07_SegmentTorn_cut (a2 : Int) (b : List Int) : Nat := min a2.toNat b.length
def merkhetlaw07_SegmentTorn_torn (k : Nat) (l0 : List (List (S77))) (kk a2 : Int) (b es : List Int) : Option Bool :=
  (segment_Read.f k (b.take (merkhetlaw07_SegmentTorn_cut a2 b))).bind fun s => if merkhetlaw07_SegmentTorn_cut a2 b < 14 then (if s.2.2.2.2.2 = 2 then merkhetlaw07_SegmentTorn_fix k else none) else
    if (s.2.2.2.2.2 = 0 ∧ s.2.2.1.length = (merkhetlaw07_SegmentTorn_ends (merkhetlaw07_SegmentTorn_cut a2 b : Nat) kk es 0 14).1 ∧ s.2.2.2.1 = (merkhetlaw07_SegmentTorn_ends (merkhetlaw07_SegmentTorn_cut a2 b : Nat) kk es 0 14).2 ∧ s.2.2.2.2.1 = (((merkhetlaw07_SegmentTorn_ends (merkhetlaw07_SegmentTorn_cut a2 b : Nat) kk es 0 14).1 : Int) == kk)) ∧ s.2.2.1.length ≤ l0.length then (merkhetlaw07_SegmentTorn_gets k s.2.2.1 l0).bind fun _ => merkhetlaw07_SegmentTorn_fix k else none
def merkhetlaw07_SegmentTorn.f (k : Nat) (l0 : List (List (S77))) (a1 a2 : Int) : Option Bool :=
  if (0 ≤ a1 ∧ a1 ≤ 255) ∧ 0 ≤ a2 ∧ a2 ≤ 65535 then (if (l0.length : Int) > 8 then merkhetlaw07_SegmentTorn_fix k
  else (segment_Head.f 9 (1 + Int.tmod a1 16)).bind fun h => if h.2 = 0 ∧ h.1.length = 14 then ((merkhetlaw07_SegmentTorn_go k l0 h.1 []).bind fun g => if g.2.2 = true then merkhetlaw07_SegmentTorn_fix k else merkhetlaw07_SegmentTorn_torn k l0 (1 + Int.tmod a1 16) a2 g.1 g.2.1) else none) else none
theorem merkhetlaw07_SegmentTorn_fix_mono (k : Nat) : LeO (merkhetlaw07_SegmentTorn_fix k) (merkhetlaw07_SegmentTorn_fix (k + 1)) := LeO.bind (merkhetlaw07_fixed.mono _) (fun _ => LeO.refl _)
theorem merkhetlaw07_SegmentTorn_go_mono (k : Nat) : ∀ l b es, LeO (merkhetlaw07_SegmentTorn_go k l b es) (merkhetlaw07_SegmentTorn_go (k + 1) l b es) := by
  intro l
  induction l with
  | nil => intro b es; exact LeO.refl _
  | cons x r ih => intro b es; exact LeO.ite (LeO.refl _) (LeO.bind (merkhetlaw04_Great.mono _ _) (fun _ => LeO.ite (LeO.refl _) (LeO.bind (wire_Put.mono _ _) (fun _ => LeO.ite (LeO.bind (frame_Put.mono _ _) (fun _ => LeO.ite (ih _ _) (LeO.refl _))) (LeO.refl _)))))
theorem merkhetlaw07_SegmentTorn_gets_mono (k : Nat) : ∀ bs l, LeO (merkhetlaw07_SegmentTorn_gets k bs l) (merkhetlaw07_SegmentTorn_gets (k + 1) bs l) := by
  intro bs
  induction bs with
  | nil => intro l; exact LeO.refl _
  | cons b bs ih =>
    intro l
    cases l with
    | nil => exact LeO.refl _
    | cons x r => exact LeO.bind (wire_Get.mono _ _) (fun _ => LeO.ite (ih _) (LeO.refl _))
theorem merkhetlaw07_SegmentTorn.mono : ∀ a0 a1 a2 k, LeO (merkhetlaw07_SegmentTorn.f k a0 a1 a2) (merkhetlaw07_SegmentTorn.f (k + 1) a0 a1 a2) := by
  intro a0 a1 a2 k
  exact LeO.ite (LeO.ite (merkhetlaw07_SegmentTorn_fix_mono k) (LeO.bind (LeO.refl _) (fun _ => LeO.ite (LeO.bind (merkhetlaw07_SegmentTorn_go_mono k _ _ _) (fun _ => LeO.ite (merkhetlaw07_SegmentTorn_fix_mono k) (LeO.bind (segment_Read.mono _ _) (fun _ => LeO.ite (LeO.ite (merkhetlaw07_SegmentTorn_fix_mono k) (LeO.refl _)) (LeO.ite (LeO.bind (merkhetlaw07_SegmentTorn_gets_mono k _ _) (fun _ => merkhetlaw07_SegmentTorn_fix_mono k)) (LeO.refl _)))))) (LeO.refl _)))) (LeO.refl _)
theorem merkhetlaw07_SegmentTorn_ne {K : IntKind} {a b : Nat} (h : a ≠ b) : ∀ q, q ∈ a :: (Kd.int K).E → q ≠ b := by
  intro q hq
  rcases List.mem_cons.1 hq with rfl | hq
  · exact h
  · have h2 : q ∈ ([] : List Nat) := hq
    cases h2
theorem merkhetlaw07_SegmentTorn_if {c : Prop} [Decidable c] {α : Type} {o : Option α} {r : α} (h : (if c then o else none) = some r) : c ∧ o = some r := by
  by_cases hc : c
  · exact ⟨hc, by simpa [hc] using h⟩
  · exact absurd h (by simp [hc])
theorem merkhetlaw07_SegmentTorn_fx {k : Nat} {r : Bool} (h : merkhetlaw07_SegmentTorn_fix k = some r) : r = true ∧ merkhetlaw07_fixed.f k = some true := by
  obtain ⟨y, hy, h2⟩ := Option.bind_eq_some_iff.mp h
  obtain ⟨rfl, h3⟩ := merkhetlaw07_SegmentTorn_if h2
  exact ⟨(Option.some.inj h3).symm, hy⟩
set_option maxHeartbeats 8000000 in
set_option maxRecDepth 100000 in
theorem merkhetlaw07_SegmentTorn.calls (k : Nat) (A0 : Option Addr) (c0 : Nat) (l0 : List (List (S77))) (a1 a2 : Int) (r : Bool) (w : World) (hr0 : Kd.C ((Kd.slice 77 k77)) w A0 l0.length l0) (hc0 : l0.length ≤ c0) (h : merkhetlaw07_SegmentTorn.f k l0 a1 a2 = some r) :
    Calls Try.prog 14 #[.slice A0 l0.length c0, .int .u8 a1, .int .u16 a2] w fun e w' => e = .returned (.bool r) ∧ Below w.heap.size w w' := by
  have hu_ := Try.underlying64
  have hu2_ := Try.underlying77
  have HR := Aside0.mk hr0
  have HC := Aside0.mk hc0
  clear hr0 hc0
  unfold merkhetlaw07_SegmentTorn.f at h
  obtain ⟨⟨⟨q1, q2⟩, q3, q4⟩, h⟩ := merkhetlaw07_SegmentTorn_if h
  by_cases c : (l0.length : Int) > 8
  · rw [if_pos c] at h
    obtain ⟨rfl, hy⟩ := merkhetlaw07_SegmentTorn_fx h
    have HY := Aside0.mk hy
    clear h hy
    go_enter Try.func14, Try.ntmps14
    go_wp2_with (fail)
    refine (merkhetlaw07_fixed.calls k true _ HY.out).mono ?_
    rintro e w2 ⟨rfl, hb⟩
    have HB2 := Aside0.mk hb
    clear hb
    go_wp2_with (fail)
    go_ret
    exact ⟨rfl, HB2.out⟩
  rw [if_neg c] at h
  have hl8 : l0.length ≤ 8 := by omega
  obtain ⟨⟨b0, e0⟩, hhead, h1⟩ := Option.bind_eq_some_iff.mp h
  obtain ⟨⟨he, hl14⟩, h2⟩ := merkhetlaw07_SegmentTorn_if h1
  have he : e0 = 0 := he
  have hl14 : b0.length = 14 := hl14
  subst he
  obtain ⟨⟨bb, ees, dn⟩, hgo, h3⟩ := Option.bind_eq_some_iff.mp h2
  have h3 : (if dn = true then merkhetlaw07_SegmentTorn_fix k else merkhetlaw07_SegmentTorn_torn k l0 (1 + Int.tmod a1 16) a2 bb ees) = some r := h3
  have hgo : merkhetlaw07_SegmentTorn_go k l0 b0 [] = some (bb, ees, dn) := hgo
  obtain ⟨a, rfl⟩ := Int.eq_ofNat_of_zero_le q1
  obtain ⟨a2, rfl⟩ := Int.eq_ofNat_of_zero_le q3
  have htm : Int.tmod (a : Int) 16 = ((a % 16 : Nat) : Int) := rfl
  rw [htm] at hhead h3
  have hm16 : a % 16 < 16 := Nat.mod_lt _ (by decide)
  generalize a % 16 = m at htm hhead h3 hm16
  have hw1 : IntKind.u8.wrap (m : Int) = (m : Int) := by simp [IntKind.wrap, IntKind.bits, IntKind.signed]; omega
  have hw2 : wrap64 (m : Int) = (m : Int) := by unfold wrap64; omega
  have hw3 : wrap64 (1 + (m : Int)) = 1 + (m : Int) := by unfold wrap64; omega
  have HW16 := Aside0.mk (show wrap64 (a2 : Int) = (a2 : Int) by unfold wrap64; omega)
  have HM16 := Aside0.mk hm16
  have HHD := Aside0.mk hhead
  have HGO := Aside0.mk hgo
  have H3 := Aside0.mk h3
  have HL8 := Aside0.mk hl8
  have HQ4 := Aside0.mk q4
  have c8b : decide ((8 : Int) < (l0.length : Int)) = false := decide_eq_false c
  clear h h1 h2 h3 hgo hhead c hl8 q1 q2 q3 q4 hm16
  clear he
  repeat clear h
  repeat clear h3
  repeat clear hgo
  go_enter Try.func14, Try.ntmps14
  go_wp2_with (fail)
  clear htm hw1 hw2 hw3
  generalize hkk : 1 + (m : Int) = kk at HHD H3 ⊢
  have HKK := Aside0.mk hkk
  clear hkk
  refine (segment_Head.calls 9 kk b0 0 _ HHD.out).mono ?_
  rintro e w2 ⟨v2, rfl, hO, hb⟩
  obtain ⟨A2, c2, rfl⟩ := Kd.R_slice hO
  rw [hl14] at hO ⊢
  have HO2 := Aside0.mk hO
  have HB2 := Aside0.mk hb
  clear hO hb HHD
  have HB0 := Aside0.mk (show b0.length ≤ 100000 ∧ ([] : List Int).length ≤ 0 by rw [hl14]; exact ⟨by decide, Nat.le_refl _⟩)
  clear hl14
  go_wp2_with (first
    | ((with_reducible refine gate_dst (N := 47) rfl ?_); refine Kd.R_lit (Kd.int .i64) (w0 := w) w.heap.size 3 ?hg (N := 47) ?hd (xs := []) (inner := []) (ok := fun _ => True) (okp := fun _ => False) ?hr ?hp (fun _ hk => hk.elim) trivial HB2.out (below_size HB2.out) (by simp) ?_; (case hd => rfl); (case hg => rfl); (case hr => first | (go_simp; done) | (go_simp; rfl)); (case hp => exact (Reps.none _ _)); intro v3 w3 ho hb hg_ hnew_; have HO3 := Aside0.mk (Kd.R_grown HO2.out hg_ (fun _ _ => by simp)); have HE3 := Aside0.mk ho; have HB3 := Aside0.mk hb; clear ho hb hg_ hnew_))
  go_loopg [8, 10, 50] l0.length (fun d v8 v10 v50 wr => ∃ (i : Nat) (b es : List Int), i + d = l0.length ∧ v50 = .int .i64 i ∧ Aside0 (merkhetlaw07_SegmentTorn_go k (l0.drop i) b es = some (bb, ees, dn)) ∧ Aside0 (Kd.R (Kd.int .u8) 5 wr w.heap.size (fun _ => True) v8 b) ∧ Aside0 (Kd.R (Kd.int .i64) 3 wr w.heap.size (fun _ => True) v10 es) ∧ Aside0 (b.length ≤ 100000 ∧ es.length ≤ i) ∧ Aside0 (Below w.heap.size w wr))
  case atStart => exact ⟨0, b0, [], by omega, rfl, HGO, HO3, HE3, HB0, HB3⟩
  case round =>
    clear HO3 HE3 HB3 HGO HB0 HO2 HB2
    obtain ⟨i, b, es, hi, rfl, HG, HO, HE, HLL, HB⟩ := hrel
    obtain ⟨A3, c3, rfl⟩ := Kd.R_slice HO.out
    obtain ⟨A4, c4, rfl⟩ := Kd.R_slice HE.out
    by_cases hlt : i < l0.length
    · have hltz : (i : Int) < (l0.length : Int) := by omega
      obtain ⟨ad, A7, c7, rfl, hx, hcx, hCx⟩ := Go.Proofs.Ytdpodjgggicaoaa.H.C_elem (Kd.C_below HR.out HB.out) i hlt
      have hg := HG.out
      rw [List.drop_eq_getElem_cons hlt, merkhetlaw07_SegmentTorn_go] at hg
      generalize l0[i] = x at hx hcx hCx hg
      have HCX := Aside0.mk hCx
      have HCC := Aside0.mk hcx
      clear hCx hcx HG
      by_cases c1 : (x.length : Int) > 4
      · rw [if_pos c1] at hg
        have hd : dn = true := by injection hg with hg; injection hg with _ hg; injection hg with _ hg; exact hg.symm
        have h3 := H3.out
        rw [if_pos hd] at h3
        obtain ⟨rfl, hy⟩ := merkhetlaw07_SegmentTorn_fx h3
        have HY := Aside0.mk hy
        have c1b : decide ((4 : Int) < (x.length : Int)) = true := decide_eq_true c1
        clear hg hd h3 hy H3
        go_wp2_with (fail)
        refine (merkhetlaw07_fixed.calls k true _ HY.out).mono ?_
        rintro e w4 ⟨rfl, hb⟩
        have HB4 := Aside0.mk (below_step HB.out hb)
        clear hb
        go_wp2_with (fail)
        go_ret
        exact ⟨rfl, HB4.out⟩
      rw [if_neg c1] at hg
      have c1b : decide ((4 : Int) < (x.length : Int)) = false := decide_eq_false c1
      obtain ⟨g, hgr, hg⟩ := Option.bind_eq_some_iff.mp hg
      have HGR := Aside0.mk hgr
      clear hgr c1
      cases g with
      | true =>
        rw [if_pos rfl] at hg
        have hd : dn = true := by injection hg with hg; injection hg with _ hg; injection hg with _ hg; exact hg.symm
        have h3 := H3.out
        rw [if_pos hd] at h3
        obtain ⟨rfl, hy⟩ := merkhetlaw07_SegmentTorn_fx h3
        have HY := Aside0.mk hy
        clear hg hd h3 hy H3
        go_wp2_with (fail)
        refine (merkhetlaw04_Great.calls k A7 c7 x true _ HCX.out HCC.out HGR.out).mono ?_
        rintro e w4 ⟨rfl, hb⟩
        have HB4 := Aside0.mk (below_step HB.out hb)
        clear hb
        go_wp2_with (fail)
        refine (merkhetlaw07_fixed.calls k true _ HY.out).mono ?_
        rintro e w5 ⟨rfl, hb⟩
        have HB5 := Aside0.mk (below_step HB4.out hb)
        clear hb
        go_wp2_with (fail)
        go_ret
        exact ⟨rfl, HB5.out⟩
      | false =>
      rw [if_neg Bool.false_ne_true] at hg
      obtain ⟨⟨body, eb⟩, hput, hg⟩ := Option.bind_eq_some_iff.mp hg
      have HPUT := Aside0.mk hput
      clear hput
      have hg : (if eb = 0 then ((frame_Put.f k body).bind fun y => if y.2 = 0 ∧ (b ++ y.1).length ≤ 100000 then merkhetlaw07_SegmentTorn_go k (l0.drop (i + 1)) (b ++ y.1) (es ++ [((b ++ y.1).length : Int)]) else none) else some (b, es, true)) = some (bb, ees, dn) := hg
      by_cases ce : eb = 0
      case neg =>
        rw [if_neg ce] at hg
        have hd : dn = true := by injection hg with hg; injection hg with _ hg; injection hg with _ hg; exact hg.symm
        have h3 := H3.out
        rw [if_pos hd] at h3
        obtain ⟨rfl, hy⟩ := merkhetlaw07_SegmentTorn_fx h3
        have HY := Aside0.mk hy
        have ceb : (eb != 0) = true := bne_iff_ne.mpr ce
        clear hg hd h3 hy H3
        go_wp2_with (fail)
        refine (merkhetlaw04_Great.calls k A7 c7 x false _ HCX.out HCC.out HGR.out).mono ?_
        rintro e w4 ⟨rfl, hb⟩
        have HB4 := Aside0.mk (below_step HB.out hb)
        have HCX4 := Aside0.mk (Kd.C_below HCX.out hb)
        clear hb
        go_wp2_with (fail)
        refine (wire_Put.calls k A7 c7 x body eb _ HCX4.out HCC.out HPUT.out).mono ?_
        rintro e w5 ⟨v5, rfl, hP, hb⟩
        obtain ⟨A5, c5, rfl⟩ := Kd.R_slice hP
        have HB5 := Aside0.mk (below_step HB4.out hb)
        clear hb hP
        go_wp2_with (fail)
        refine (merkhetlaw07_fixed.calls k true _ HY.out).mono ?_
        rintro e w6 ⟨rfl, hb⟩
        have HB6 := Aside0.mk (below_step HB5.out hb)
        clear hb
        go_wp2_with (fail)
        go_ret
        exact ⟨rfl, HB6.out⟩
      subst ce
      rw [if_pos rfl] at hg
      obtain ⟨⟨y, ey⟩, hfp, hg⟩ := Option.bind_eq_some_iff.mp hg
      obtain ⟨⟨hey, hyl⟩, hg⟩ := merkhetlaw07_SegmentTorn_if hg
      have hey : ey = 0 := hey
      subst hey
      have HFP := Aside0.mk hfp
      have HYL := Aside0.mk (show (b ++ y).length ≤ 100000 from hyl)
      have HG := Aside0.mk hg
      clear hfp hyl hg
      go_wp2_with (fail)
      refine (merkhetlaw04_Great.calls k A7 c7 x false _ HCX.out HCC.out HGR.out).mono ?_
      rintro e w4 ⟨rfl, hb⟩
      have HB4 := Aside0.mk (below_step HB.out hb)
      have HCX4 := Aside0.mk (Kd.C_below HCX.out hb)
      have HO4 := Aside0.mk (Kd.R_below HO.out hb)
      have HE4 := Aside0.mk (Kd.R_below HE.out hb)
      clear hb
      go_wp2_with (fail)
      refine (wire_Put.calls k A7 c7 x body 0 _ HCX4.out HCC.out HPUT.out).mono ?_
      rintro e w5 ⟨v5, rfl, hP, hb⟩
      obtain ⟨A5, c5, rfl⟩ := Kd.R_slice hP
      have HP5 := Aside0.mk (Kd.R_reads' hP)
      have HB5 := Aside0.mk (below_step HB4.out hb)
      have HO5 := Aside0.mk (Kd.R_below HO4.out hb)
      have HE5 := Aside0.mk (Kd.R_below HE4.out hb)
      clear hb hP
      go_wp2_with (fail)
      refine (frame_Put.calls k A5 c5 body y 0 _ HP5.out.2.2 HP5.out.2.1 HFP.out).mono ?_
      rintro e w6 ⟨v6, rfl, hP, hb⟩
      obtain ⟨A6, c6, rfl⟩ := Kd.R_slice hP
      have HP6 := Aside0.mk (Kd.R_reads' hP)
      have HB6 := Aside0.mk (below_step HB5.out hb)
      have HO6 := Aside0.mk (Kd.R_below HO5.out hb)
      have HE6 := Aside0.mk (Kd.R_below HE5.out hb)
      clear hb hP HO4 HO5 HE4 HE5 HB4 HB5 HO HE HCX HCX4 HGR HPUT HFP
      have hi8 : (i : Int) < 100000 := by have := HL8.out; omega
      clear hey
      repeat clear hg
      go_wp2_with (first
        | (at_builtin; refine Kd.R_append_rows (Kd.int .u8) (w0 := w) w.heap.size rfl (.tmp 77) (.tmp 78) 25 5 (.int .u8 0) 1 rfl Try.underlying25 info5 rfl (by decide) (by omega) (.slice A3 b.length c3) b y A6 y.length c6 (fun _ => True) (fun _ => False) rfl rfl HO6.out HP6.out.2.2 (fun _ _ h => h) (fun _ h => h.elim) (fun _ _ => trivial) HB6.out (below_size HB6.out) (by have := HLL.out; have h_ := HYL.out; rw [List.length_append] at h_; omega) ?_; intro v7 w7 ho hb hg_ hat_; have HE7 := Aside0.mk (Kd.R_over HE6.out HO6.out (merkhetlaw07_SegmentTorn_ne (by decide)) hg_); obtain ⟨A8, c8, e7⟩ := Kd.R_slice ho; subst e7; have HO7 := Aside0.mk ho; have HB7 := Aside0.mk hb; clear ho hb hg_ hat_ HO6 HE6 HB6 HP6; obtain ⟨n7, hn7⟩ : ∃ n7 : Nat, n7 = (b ++ y).length := ⟨_, rfl⟩; rw [← hn7] at HO7 ⊢; have HN7 := Aside0.mk hn7; clear hn7)
        | (at_builtin; refine Kd.R_append (Kd.int .i64) (w0 := w) w.heap.size rfl (.tmp 80) (.tmp 83) 50 3 (.int .i64 0) 8 rfl Try.underlying50 info3 rfl (by decide) (by omega) (.slice A4 es.length c4) es (n7 : Int) [.int .i64 (n7 : Int)] (fun _ => True) (fun _ => False) rfl rfl rfl (fun _ hk => hk.elim) (fun _ _ => trivial) HE7.out HB7.out (below_size HB7.out) (by have := HLL.out; have := HL8.out; omega) ?_; intro v8 w8 ho hb hg_ hat_; have HO8 := Aside0.mk (Kd.R_over HO7.out HE7.out (merkhetlaw07_SegmentTorn_ne (by decide)) hg_); have HE8 := Aside0.mk ho; have HB8 := Aside0.mk hb; clear ho hb hg_ hat_ HO7 HE7 HB7; obtain ⟨A9, c9, rfl⟩ := Kd.R_slice HE8.out))
      go_roundg (l0.length - (i + 1))
      case measure => omega
      case rel => exact ⟨i + 1, b ++ y, es ++ [(n7 : Int)], by omega, by go_num, ⟨by have h_ := HG.out; rw [← HN7.out] at h_; exact h_⟩, HO8, ⟨by have h_ := HE8.out; rw [show (es ++ [(n7 : Int)]).length = es.length + 1 by simp] at h_; exact h_⟩, ⟨HYL.out, by rw [List.length_append]; have := HLL.out; simp only [List.length_cons, List.length_nil]; omega⟩, HB8⟩
    · obtain rfl : i = l0.length := by omega
      have hg := HG.out
      rw [List.drop_length, merkhetlaw07_SegmentTorn_go] at hg
      injection hg with hg
      injection hg with e1 hg
      injection hg with e2 e3
      subst e1 e2 e3
      have h3 := H3.out
      rw [if_neg Bool.false_ne_true] at h3
      unfold merkhetlaw07_SegmentTorn_torn at h3
      obtain ⟨⟨s1, s2, s3, s4, s5, e1⟩, hrd, h3⟩ := Option.bind_eq_some_iff.mp h3
      obtain ⟨cN, hcN⟩ : ∃ cN, cN = merkhetlaw07_SegmentTorn_cut (a2 : Int) b := ⟨_, rfl⟩
      rw [← hcN] at hrd h3
      have hcl : cN ≤ b.length := by rw [hcN]; exact Nat.min_le_right _ _
      have hmin : cN = min a2 b.length := by rw [hcN, merkhetlaw07_SegmentTorn_cut, Int.toNat_natCast]
      obtain ⟨nb, hnb⟩ : ∃ nb : Nat, nb = b.length := ⟨_, rfl⟩
      have hc3 := (Kd.R_reads' HO.out).2.1
      have hlt2 : (b.take cN).length = cN := by rw [List.length_take]; omega
      have hTr := Kd.R_reads' (Kd.R_take HO.out hcl)
      have hcx := segment_Read.calls k A3 c3 (b.take cN) s1 s2 s3 s4 s5 e1 wr hTr.2.2 (by rw [hlt2]; exact hTr.2.1) hrd
      rw [hlt2] at hcx
      have HCX := Aside0.mk hcx
      have H33 := Aside0.mk h3
      have hlt' : ¬ (l0.length : Int) < (l0.length : Int) := by omega
      have hkey : (a2 = cN ∧ ¬ nb < a2 ∧ a2 ≤ c3) ∨ (nb = cN ∧ nb < a2 ∧ nb ≤ c3) := by omega
      have HLE := Aside0.mk (show es.length ≤ 100000 by have := HLL.out; have := HL8.out; omega)
      have hw16 := HW16.out
      rw [← hnb]
      clear hcN hrd h3 hcl hmin HG H3 hi hlt hnb hc3 hlt2 hTr hcx HO HLL
      rcases hkey with ⟨hk0, hk1, hk2⟩ | ⟨hk0, hk1, hk2⟩
      all_goals
        replace hk0 := hk0.symm
        subst hk0
        go_wp2_with (fail)
        refine HCX.out.mono ?_
        rintro e w5 ⟨v5, rfl, hS, hb⟩
        obtain ⟨A5, c5, rfl⟩ := Kd.S_slice hS
        obtain ⟨A, cc, e, hrow⟩ := Go.Proofs.Ytdpodjgggicaoaa.H.R_rows (Kd.S_R hS)
        injection e with ea _ ec
        subst ea ec
        have HROW := Aside0.mk hrow
        have HB5 := Aside0.mk (below_step HB.out hb)
        have HE5 := Aside0.mk (Kd.R_below HE.out hb)
        have HK6 := Aside0.mk (blk_new w5 (.cells #[.int .u32 s1, .int .i64 s2, .slice A5 s3.length c5, .int .i64 s4, .bool s5] 64 (0, 0)))
        have HB6 := Aside0.mk (below_alloc HB5.out (.cells #[.int .u32 s1, .int .i64 s2, .slice A5 s3.length c5, .int .i64 s4, .bool s5] 64 (0, 0)))
        have HE6 := Aside0.mk (Kd.R_alloc HE5.out (.cells #[.int .u32 s1, .int .i64 s2, .slice A5 s3.length c5, .int .i64 s4, .bool s5] 64 (0, 0)))
        have HB56 := Aside0.mk (below_alloc (Below.refl w5.heap.size w5) (.cells #[.int .u32 s1, .int .i64 s2, .slice A5 s3.length c5, .int .i64 s4, .bool s5] 64 (0, 0)))
        clear hS hb hrow HB HE HCX
        have h3 := H33.out
        clear H33
        by_cases c14 : cN < 14
        · rw [if_pos c14] at h3
          obtain ⟨he2, h3⟩ := merkhetlaw07_SegmentTorn_if h3
          have he2 : e1 = 2 := he2
          subst he2
          obtain ⟨rfl, hy⟩ := merkhetlaw07_SegmentTorn_fx h3
          have HY := Aside0.mk hy
          have c14b : decide ((cN : Int) < 14) = true := decide_eq_true (by omega)
          clear h3 hy
          go_wp2_with (fail)
          refine (merkhetlaw07_fixed.calls k true _ HY.out).mono ?_
          rintro e w7 ⟨rfl, hb⟩
          have HB7 := Aside0.mk (below_step HB6.out hb)
          clear hb
          go_wp2_with (fail)
          go_ret
          exact ⟨rfl, HB7.out⟩
        · rw [if_neg c14] at h3
          obtain ⟨⟨⟨ha2, ha3, ha4, ha5⟩, ha6⟩, h3⟩ := merkhetlaw07_SegmentTorn_if h3
          obtain ⟨u, hgets0, h3⟩ := Option.bind_eq_some_iff.mp h3
          obtain ⟨rfl, hy⟩ := merkhetlaw07_SegmentTorn_fx h3
          have HY := Aside0.mk hy
          have he2 : e1 = 0 := ha2
          have hgets : merkhetlaw07_SegmentTorn_gets k s3 l0 = some u := hgets0
          have hs6 : s3.length ≤ l0.length := ha6
          obtain ⟨mm, gg, hmg⟩ : ∃ mm gg, merkhetlaw07_SegmentTorn_ends (cN : Int) kk es 0 14 = (mm, gg) := ⟨_, _, rfl⟩
          rw [hmg] at ha3 ha4 ha5
          have hs3 : s3.length = mm := ha3
          have hs4 : s4 = gg := ha4
          have hs5 : s5 = ((mm : Int) == kk) := ha5
          clear ha2 ha3 ha4 ha5 ha6 hgets0
          subst he2 hs3 hs4
          have HGETS := Aside0.mk hgets
          have HS5 := Aside0.mk hs5
          have HS6 := Aside0.mk hs6
          have HMG := Aside0.mk hmg
          have c14b : decide ((cN : Int) < 14) = false := decide_eq_false (by omega)
          clear h3 hy hgets hs5 hs6 hmg c14
          go_wp2_with (fail)
          generalize hW6 : w5.alloc (.cells #[.int .u32 s1, .int .i64 s2, .slice A5 s3.length c5, .int .i64 s4, .bool s5] 64 (0, 0)) = W6 at HK6 HB6 HE6 HB56 ⊢
          clear hW6
          generalize hG6 : w5.heap.size = G6 at HK6 ⊢
          go_loopg [20, 21, 107] es.length (fun d v20 v21 v107 wr2 => ∃ (i m : Nat) (g : Int), i + d = es.length ∧ v107 = .int .i64 i ∧ v20 = .int .i64 m ∧ v21 = .int .i64 g ∧ Aside0 (m ≤ i) ∧ Aside0 (merkhetlaw07_SegmentTorn_ends (cN : Int) kk (es.drop i) m g = (s3.length, s4)) ∧ Aside0 (Below W6.heap.size W6 wr2))
          case atStart => exact ⟨0, 0, 14, by omega, rfl, rfl, rfl, ⟨Nat.le_refl _⟩, HMG, ⟨Below.refl _ _⟩⟩
          case round =>
            clear HMG
            obtain ⟨i, m, g, hi, rfl, rfl, rfl, HMI, HG, HBW⟩ := hrel
            have HBR := Aside0.mk (below_step HB6.out HBW.out)
            by_cases hlt : i < es.length
            · have hltz : (i : Int) < (es.length : Int) := by omega
              have hi9 : (i : Int) < 100000 ∧ (m : Int) < 100000 := by have := HLE.out; have := HMI.out; omega
              obtain ⟨ad, e, hx⟩ := Kd.at_int (Kd.R_reads' (Kd.R_below HE6.out HBW.out)).2.2 (i : Int) (by omega) hltz
              cases e
              have hy : rd es (i : Int) = es[i] := by simp [rd, List.getD_eq_getElem?_getD, List.getElem?_eq_getElem hlt]
              rw [Int.toNat_natCast, hy] at hx
              have hg := HG.out
              rw [List.drop_eq_getElem_cons hlt, merkhetlaw07_SegmentTorn_ends] at hg
              generalize es[i] = x at hx hg
              clear hy HG
              obtain ⟨h91, h92⟩ := hi9
              by_cases t1 : x ≤ (cN : Int)
              · have t1b : decide (x ≤ (cN : Int)) = true := decide_eq_true t1
                by_cases t2 : (m : Int) < kk
                · have t2b : decide ((m : Int) < kk) = true := decide_eq_true t2
                  rw [if_pos ⟨t1, t2⟩] at hg
                  have HG2 := Aside0.mk hg
                  clear hg t1 t2
                  go_wp2_with (fail)
                  go_roundg (es.length - (i + 1))
                  case measure => omega
                  case rel => exact ⟨i + 1, m + 1, x, by omega, by go_num, by go_num, rfl, ⟨by have := HMI.out; omega⟩, HG2, HBW⟩
                · have t2b : decide ((m : Int) < kk) = false := decide_eq_false t2
                  rw [if_neg (fun h => t2 h.2)] at hg
                  have HG2 := Aside0.mk hg
                  clear hg t1 t2
                  go_wp2_with (fail)
                  go_roundg (es.length - (i + 1))
                  case measure => omega
                  case rel => exact ⟨i + 1, m, g, by omega, by go_num, rfl, rfl, ⟨by have := HMI.out; omega⟩, HG2, HBW⟩
              · have t1b : decide (x ≤ (cN : Int)) = false := decide_eq_false t1
                rw [if_neg (fun h => t1 h.1)] at hg
                have HG2 := Aside0.mk hg
                clear hg t1
                go_wp2_with (fail)
                go_roundg (es.length - (i + 1))
                case measure => omega
                case rel => exact ⟨i + 1, m, g, by omega, by go_num, rfl, rfl, ⟨by have := HMI.out; omega⟩, HG2, HBW⟩
            · obtain rfl : i = es.length := by omega
              have hg := HG.out
              rw [List.drop_length, merkhetlaw07_SegmentTorn_ends] at hg
              injection hg with hg1 hg2
              subst hg2
              have hq0 : ((0 : Int) != 0) = false := rfl
              have hq1 : ((s3.length : Int) != (m : Int)) = false := by rw [hg1]; exact bne_self_eq_false _
              have hq2 : (g != g) = false := bne_self_eq_false _
              have hq3 : (!(s5 == ((m : Int) == kk))) = false := by rw [HS5.out, ← hg1, beq_self_eq_true]; rfl
              have HG1 := Aside0.mk hg1
              have hKW := blk_below HK6.out HBW.out
              have ka2 : wr.cell? ⟨G6, 2, none⟩ = some (.slice A5 s3.length c5) := (blk_cell hKW 2).trans rfl
              have ka3 : wr.cell? ⟨G6, 3, none⟩ = some (.int .i64 g) := (blk_cell hKW 3).trans rfl
              have ka4 : wr.cell? ⟨G6, 4, none⟩ = some (.bool s5) := (blk_cell hKW 4).trans rfl
              clear HG hg1 hKW HS5
              go_wp2_with (fail)
              clear hq0 hq1 hq2 hq3 ka2 ka3 ka4
              generalize wr = W7 at HBW HBR ⊢
              go_loopg [149] s3.length (fun d v149 wr3 => ∃ (i : Nat), i + d = s3.length ∧ v149 = .int .i64 i ∧ Aside0 (merkhetlaw07_SegmentTorn_gets k (s3.drop i) (l0.drop i) = some u) ∧ Aside0 (Below W6.heap.size W6 wr3))
              case atStart => exact ⟨0, by omega, rfl, HGETS, HBW⟩
              case round =>
                clear HGETS HBW HBR
                obtain ⟨i, hi, rfl, HG, HBW⟩ := hrel
                have hKW := blk_below HK6.out HBW.out
                have ka2 : wr.cell? ⟨G6, 2, none⟩ = some (.slice A5 s3.length c5) := (blk_cell hKW 2).trans rfl
                clear hKW
                by_cases hlt : i < s3.length
                · have hltz : (i : Int) < (s3.length : Int) := by omega
                  have hlt8 : i < l0.length := Nat.lt_of_lt_of_le hlt HS6.out
                  have hlt8z : (i : Int) < (l0.length : Int) := by omega
                  have hi9 : (i : Int) < 100000 := by have := HL8.out; omega
                  obtain ⟨gr, rfl, hgl, cells, hcells, hel⟩ := HROW.out (by omega)
                  obtain ⟨u5, hu5, hR5⟩ := hel i hlt
                  have hBW5 := below_step HB56.out HBW.out
                  have hx5 : wr.cell? ⟨gr, i, none⟩ = some u5 := (hBW5.cell (p := ⟨gr, i, none⟩) hgl).trans ((blk_cell hcells i).trans hu5)
                  obtain ⟨A8, c8, rfl⟩ := Kd.R_slice hR5
                  have hR6 := Kd.R_below hR5 hBW5
                  have hg := HG.out
                  rw [List.drop_eq_getElem_cons hlt, List.drop_eq_getElem_cons hlt8, merkhetlaw07_SegmentTorn_gets] at hg
                  obtain ⟨⟨xs, ex⟩, hwg, hg⟩ := Option.bind_eq_some_iff.mp hg
                  obtain ⟨⟨hex, hxl, hxp, hxh⟩, hg2⟩ := merkhetlaw07_SegmentTorn_if hg
                  have hex : ex = 0 := hex
                  subst hex
                  have HG2 := Aside0.mk hg2
                  have HWG := Aside0.mk (wire_Get.calls k (fun _ => True) A8 c8 s3[i] xs 0 wr (Kd.R_V hR6) hwg)
                  have HX := Aside0.mk (show xs.length = l0[i].length ∧ 0 < l0[i].length ∧ xs.head? = l0[i].head? from ⟨hxl, hxp, hxh⟩)
                  have HBR := Aside0.mk (below_step HB6.out HBW.out)
                  clear hcells hel hu5 hR5 hR6 hBW5 hg2 hg hwg hxl hxp hxh HG
                  go_wp2_with (fail)
                  clear hx5 ka2
                  refine HWG.out.mono ?_
                  rintro e w8 ⟨v8, rfl, h8, hb⟩
                  obtain ⟨A9, c9, rfl⟩ := Kd.R_slice h8
                  have HBW8 := Aside0.mk (below_step HBW.out hb)
                  have HBR8 := Aside0.mk (below_step HBR.out hb)
                  obtain ⟨ad, A7, c7, rfl, hx, hcx, hCx⟩ := Go.Proofs.Ytdpodjgggicaoaa.H.C_elem (Kd.C_below HR.out HBR8.out) i hlt8
                  obtain ⟨hxl, hxp, hxh⟩ := HX.out
                  generalize l0[i] = x at hx hcx hCx hxl hxp hxh
                  obtain ⟨adx, e, p0, p1, p2, p3, p4, p5, p6, p7⟩ := at_T77 (Kd.R_reads' h8).2.2 0 (Int.le_refl 0) (by omega)
                  cases e
                  obtain ⟨ady, e, r0, r1, r2, r3, r4, r5, r6, r7⟩ := at_T77 hCx 0 (Int.le_refl 0) (by omega)
                  cases e
                  have hxy : rd_T77 xs 0 = rd_T77 x 0 := by
                    cases xs with
                    | nil => rw [List.length_nil] at hxl; omega
                    | cons p xs' =>
                      cases x with
                      | nil => rw [List.length_nil] at hxp; omega
                      | cons q x' => exact Option.some.inj hxh
                  rw [hxy] at p0 p1 p2 p3 p4 p5 p6 p7
                  have had : ∀ a : Addr, a.add ((0 : Int).toNat * 8) = a := fun a => by simp [Addr.add]
                  rw [had] at p0 p1 p2 p3 p4 p5 p6 p7 r0 r1 r2 r3 r4 r5 r6 r7
                  clear had
                  have hq1 : ((xs.length : Int) != (x.length : Int)) = false := by rw [hxl]; exact bne_self_eq_false _
                  have hxp2 : 0 < xs.length := by omega
                  have hq0 : ((0 : Int) < (xs.length : Int)) = True := eq_true (by omega)
                  have hq2 : ((0 : Int) < (x.length : Int)) = True := eq_true (by omega)
                  have hq3 : (0 < xs.length) = True := eq_true hxp2
                  have hq4 : (0 < x.length) = True := eq_true hxp
                  have hq5 : (xs = []) = False := eq_false (fun e => by rw [e] at hxp2; exact absurd hxp2 (Nat.lt_irrefl _))
                  have hq6 : (x = []) = False := eq_false (fun e => by rw [e] at hxp; exact absurd hxp (Nat.lt_irrefl _))
                  generalize rd_T77 x 0 = p at p0 p1 p2 p3 p4 p5 p6 p7 r0 r1 r2 r3 r4 r5 r6 r7
                  clear hxh hxy hxl hxp hxp2 hCx hcx h8 hb HWG HX HBW HBR
                  go_wp2_with (fail)
                  go_quiet (fail)
                  go_wp2_with (fail)
                  go_roundg (s3.length - (i + 1))
                  case measure => omega
                  case rel => exact ⟨i + 1, by omega, by go_num, HG2, ⟨by first | exact HBW8.out | exact pw_below_drewN HBW8.out _⟩⟩
                · have hltz : ¬ (i : Int) < (s3.length : Int) := by omega
                  have HBR := Aside0.mk (below_step HB6.out HBW.out)
                  clear ka2
                  go_wp2_with (fail)
                  refine (merkhetlaw07_fixed.calls k true _ HY.out).mono ?_
                  rintro e w9 ⟨rfl, hb⟩
                  have HB9 := Aside0.mk (below_step HBR.out hb)
                  clear hb
                  go_wp2_with (fail)
                  go_ret
                  exact ⟨rfl, HB9.out⟩
def merkhetlaw07_SegmentTorn.Pure : Prop := ∀ (l0 : List (List (S77))) (a1 : Int) (a2 : Int), l0.length ≤ maxLen → (∀ x0_ ∈ l0, (∀ x1_ ∈ x0_, ((Lit.int .u64 x1_.f0).wf = true ∧ (Lit.int .u64 x1_.f1).wf = true ∧ (Lit.int .u64 x1_.f2).wf = true ∧ (Lit.int .u8 x1_.f3).wf = true ∧ x1_.f4.size ≤ maxLen ∧ x1_.f5.size ≤ maxLen ∧ (Lit.int .i64 x1_.f6).wf = true ∧ (Lit.int .i64 x1_.f7).wf = true))) → (Lit.int .u8 a1).wf = true → (Lit.int .u16 a2).wf = true → ∃ k, merkhetlaw07_SegmentTorn.f k l0 a1 a2 = some true
end Go.Proofs.Ytdpodjgggicaoaa.SO
