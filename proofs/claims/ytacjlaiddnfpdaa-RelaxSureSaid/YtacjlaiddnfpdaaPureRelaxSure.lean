/- Edges that are made to hold for some whole numbers can be met: the plain law of the last layer. No conditions. -/
import Derived.Test.YtacjlaiddnfpdaaLx8
import Derived.Test.YtacjlaiddnfpdaaLC15b
import Derived.Test.YtacjlaiddnfpdaaLC15f
import Derived.Test.YtacjlaiddnfpdaaLC14
namespace Go.Proofs.Ytacjlaiddnfpdaa.Pure
open Go.RowKit Go.Proofs.Ytacjlaiddnfpdaa.L Go.Proofs.Ytacjlaiddnfpdaa.H Go.Proofs.YtacjlaiddnfpdaaW.PrintWords Go.Proofs.YtacjlaiddnfpdaaW.PrintLast Go.Proofs.YtacjlaiddnfpdaaW.PrintMore

theorem fixedS : Ev (fun k => (merkhetlaw15_fixed.f k).bind fun t => some t) true := Ev.bind law15_fixed_ev (Ev.now _)
theorem sure_l2 (top : Int) (o x : List Int) (ho : o.length = x.length) (hn : x.length < 1000) (h : ∀ i : Nat, i < x.length → wrap64 (rd x (i : Int) - top) ≤ rd o (i : Int) ∧ rd o (i : Int) ≤ 0) : ∀ (d i : Nat), x.length - i = d → i ≤ x.length → Ev (fun k => merkhetlaw15_RelaxSure.l2 k top o x (x.length : Int) (i : Int)) true := by
  intro d
  induction d with
  | zero =>
    intro i hd hi
    exact ev_step (fun k => by rw [merkhetlaw15_RelaxSure.l2, if_neg (by omega)]) fixedS
  | succ d ih =>
    intro i hd hi
    have h1 := h i (by omega)
    refine ev_step (fun k => ?_) (ih (i + 1) (by omega) (by omega))
    rw [merkhetlaw15_RelaxSure.l2, if_pos (by omega), if_pos (by omega), if_pos (by omega), if_pos (by omega), if_neg (by omega), if_neg (by omega), w64t i (by omega)]
/-- An edge that has been made to hold. -/
def goodS (x : List Int) (s : S48) : Prop := 0 ≤ s.f0 ∧ s.f0 < (x.length : Int) ∧ 0 ≤ s.f1 ∧ s.f1 < (x.length : Int) ∧ -4503599627370496 ≤ s.f2 ∧ s.f2 ≤ 4503599627370496 ∧ rd x s.f1 ≤ rd x s.f0 + s.f2
open Classical in
theorem sure_end (x : List Int) (top : Int) (hx0 : 0 < x.length) (hx : x.length ≤ 32) (hxb : ∀ i : Nat, i < x.length → rd x (i : Int) ≤ top ∧ -1125899906842624 ≤ rd x (i : Int)) (ht0 : 0 ≤ top) (ht1 : top ≤ 1125899906842624) (acc : List S48) (ha : acc.length ≤ 100) (hg : ∀ s ∈ acc, goodS x s) :
    Ev (fun k => (relax_Solve.f k (x.length : Int) acc).bind fun bt => (if bt.2 = true then (if (bt.1.length : Int) = (x.length : Int) then ((merkhetref14_All.f k acc bt.1).bind fun t => (merkhetlaw15_RelaxSure.j3 k x top bt.1 (!t))) else (merkhetlaw15_RelaxSure.j3 k x top bt.1 true)) else (merkhetlaw15_RelaxSure.j3 k x top bt.1 true))) true := by
  have hm : mayL (x.length : Int) acc := mayL_mk (by omega) (by omega) (fun s hs => by have := hg s hs; unfold goodS at this; omega)
  have hc := conv_of hm (x := fun h => rd x h) (fun s hs => (hg s hs).2.2.2.2.2.2)
  refine Ev.bind (solve_ev (x.length : Int) acc (by omega)) ?_
  rcases solveP_cases (x.length : Int) acc with ⟨hno, _⟩ | ⟨_, _, he⟩
  · exact absurd ⟨hm, hc⟩ hno
  · rw [he]
    have hrb : ∀ v ∈ rowF ((x.length : Int)).toNat (L (eds acc) ((x.length : Int)).toNat), v ≤ 0 ∧ -288230376151711744 ≤ v := by
      intro v hv
      obtain ⟨h, _, rfl⟩ := List.mem_map.1 hv
      have h1 := L_low hm.2 ((x.length : Int)).toNat (h : Int)
      have h2 := L_nonpos (eds acc) ((x.length : Int)).toNat (h : Int)
      have h3 := hm.2.n32
      omega
    refine Ev.congr (fun k => by rw [if_pos rfl, if_pos (by rw [rowF_length]; omega)]) ?_
    refine Ev.bind (all_ev acc _ (fun v hv => by have := hrb v hv; unfold i64R; omega) (fun s hs => by have := hg s hs; unfold goodS at this; unfold i64R; omega) (by omega)) ?_
    rw [decide_eq_true (p := ∀ s ∈ acc, holdsS _ s) (fun s hs => by
      have h1 := mayL_at hm hs
      have h2 := L_meets hm.2 (fun h a b => hc h a (by omega)) (ed s) (mem_eds hs)
      unfold holdsS
      rw [rowF_length, rowF_rd _ _ _ (by omega) (by omega), rowF_rd _ _ _ (by omega) (by omega)]
      exact ⟨h1.1, by omega, h1.2.2.1, by omega, h2⟩)]
    refine ev_step (fun k => by rw [merkhetlaw15_RelaxSure.j3, if_neg (by decide)]) ?_
    have hgr := L_greatest hm.2 (x := fun h => rd x h - top) (fun e he => by
      obtain ⟨s, hs, rfl⟩ := List.mem_map.1 he
      have := (hg s hs).2.2.2.2.2.2
      show rd x s.f1 - top ≤ rd x s.f0 - top + s.f2
      omega) (fun h a b => by
      have := (hxb h.toNat (by omega)).1
      rw [Int.toNat_of_nonneg a] at this
      show rd x h - top ≤ 0
      omega)
    refine sure_l2 top _ x (by rw [rowF_length]; omega) (by omega) (fun j hj => ?_) _ 0 rfl (Nat.zero_le _)
    have h1 := hgr ((x.length : Int)).toNat (j : Int) (by omega) (by omega)
    have h2 := hxb j hj
    rw [rowF_rd _ _ _ (by omega) (by omega)]
    have hw2 : wrap64 (rd x (j : Int) - top) = rd x (j : Int) - top := by unfold wrap64; omega
    rw [hw2]
    exact ⟨h1, L_nonpos _ _ _⟩
theorem tmod_in (a n : Int) (ha : 0 ≤ a) (hn : 0 < n) : 0 ≤ Int.tmod a n ∧ Int.tmod a n < n := ⟨Int.tmod_nonneg _ ha, Int.tmod_lt_of_pos _ hn⟩
theorem wrap_in (a : Int) (h0 : 0 ≤ a) (h1 : a ≤ 4294967295) : wrap64 a = a := by unfold wrap64; omega
theorem made_w (p q m : Int) (hp : -1125899906842624 ≤ p ∧ p ≤ 1125899906842624) (hq : -1125899906842624 ≤ q ∧ q ≤ 1125899906842624) (hm : 0 ≤ m ∧ m ≤ 4294967295) : wrap64 (wrap64 (p - q) + m) = p - q + m := by unfold wrap64; omega
theorem sure_l1 (x : List Int) (ps : List S43) (more : List Int) (top : Int) (hx0 : 0 < x.length) (hx : x.length ≤ 32) (hxb : ∀ i : Nat, i < x.length → rd x (i : Int) ≤ top ∧ -1125899906842624 ≤ rd x (i : Int)) (ht0 : 0 ≤ top) (ht1 : top ≤ 1125899906842624) (hps : ps.length ≤ 100) (hmo : 0 < more.length) (hmo2 : more.length ≤ 100) (hpw : ∀ s ∈ ps, 0 ≤ s.f0 ∧ s.f0 ≤ 255 ∧ 0 ≤ s.f1 ∧ s.f1 ≤ 255) (hmw : ∀ v ∈ more, 0 ≤ v ∧ v ≤ 4294967295) :
    ∀ (d i : Nat) (acc : List S48), ps.length - i = d → i ≤ ps.length → acc.length = i → (∀ s ∈ acc, goodS x s) → Ev (fun k => merkhetlaw15_RelaxSure.l1 k x more (x.length : Int) top acc ps (ps.length : Int) (i : Int)) true := by
  intro d
  induction d with
  | zero =>
    intro i acc hd hi hacc hg
    have h_ := sure_end x top hx0 hx hxb ht0 ht1 acc (by omega) hg
    exact ev_step (fun k => by rw [merkhetlaw15_RelaxSure.l1, if_neg (by omega)]) h_
  | succ d ih =>
    intro i acc hd hi hacc hg
    have hlt : i < ps.length := by omega
    have hz : rd_T43 ps (i : Int) = ps[i] := by show ps.getD _ _ = _; rw [Int.toNat_natCast, List.getD_eq_getElem?_getD, List.getElem?_eq_getElem hlt]; rfl
    have hp := hpw ps[i] (List.getElem_mem hlt)
    have ha := tmod_in ps[i].f0 (x.length : Int) hp.1 (by omega)
    have hb := tmod_in ps[i].f1 (x.length : Int) hp.2.2.1 (by omega)
    have hc := tmod_in (i : Int) (more.length : Int) (by omega) (by omega)
    have hxa := hxb (Int.tmod ps[i].f0 (x.length : Int)).toNat (by omega)
    have hxb2 := hxb (Int.tmod ps[i].f1 (x.length : Int)).toNat (by omega)
    rw [Int.toNat_of_nonneg ha.1] at hxa
    rw [Int.toNat_of_nonneg hb.1] at hxb2
    have hm1 : 0 ≤ rd more (Int.tmod (i : Int) (more.length : Int)) ∧ rd more (Int.tmod (i : Int) (more.length : Int)) ≤ 4294967295 := by
      unfold rd
      rw [List.getD_eq_getElem?_getD, List.getElem?_eq_getElem (show (Int.tmod (i : Int) (more.length : Int)).toNat < more.length by omega)]
      exact hmw _ (List.getElem_mem _)
    have hw := made_w (rd x (Int.tmod ps[i].f1 (x.length : Int))) (rd x (Int.tmod ps[i].f0 (x.length : Int))) _ (by omega) (by omega) hm1
    generalize hA : Int.tmod ps[i].f0 (x.length : Int) = A at ha hxa hw
    generalize hB : Int.tmod ps[i].f1 (x.length : Int) = B at hb hxb2 hw
    generalize hM : Int.tmod (i : Int) (more.length : Int) = M at hc hm1 hw
    refine ev_step (fun k => ?_) (ih (i + 1) (acc ++ [⟨A, B, rd x B - rd x A + rd more M, ⟨0, 0⟩, false⟩]) (by omega) (by omega) (by simp; omega) (fun s hs => by
      rcases List.mem_append.1 hs with h | h
      · exact hg s h
      · rw [List.mem_singleton.1 h]
        unfold goodS
        simp only []
        omega))
    rw [merkhetlaw15_RelaxSure.l1, if_pos (by omega), if_pos (by omega), if_pos (by omega), if_neg (by omega), hz, wrap_in _ hp.2.2.1 (by omega), wrap_in _ hp.1 (by omega), hA, hB, if_pos hb.1, if_pos hb.2, if_pos ha.1, if_pos ha.2, if_neg (by omega), hM, if_pos hc.1, if_pos hc.2, if_pos (by omega), wrap_in _ hm1.1 hm1.2, hw, w64t i (by omega)]
theorem sure_l0 (x : List Int) (ps : List S43) (more : List Int) (hx0 : 0 < x.length) (hx : x.length ≤ 32) (hps : ps.length ≤ 100) (hmo : 0 < more.length) (hmo2 : more.length ≤ 100) (hpw : ∀ s ∈ ps, 0 ≤ s.f0 ∧ s.f0 ≤ 255 ∧ 0 ≤ s.f1 ∧ s.f1 ≤ 255) (hmw : ∀ v ∈ more, 0 ≤ v ∧ v ≤ 4294967295) : ∀ (d i : Nat) (top : Int), x.length - i = d → i ≤ x.length → 0 ≤ top → top ≤ 1125899906842624 → (∀ j : Nat, j < i → rd x (j : Int) ≤ top ∧ -1125899906842624 ≤ rd x (j : Int)) → Ev (fun k => merkhetlaw15_RelaxSure.l0 k x ps more (x.length : Int) top x (x.length : Int) (i : Int)) true := by
  intro d
  induction d with
  | zero =>
    intro i top hd hi ht0 ht1 hall
    refine ev_step (fun k => by rw [merkhetlaw15_RelaxSure.l0, if_neg (by omega)]) ?_
    exact sure_l1 x ps more top hx0 hx (fun j hj => hall j (by omega)) ht0 ht1 hps hmo hmo2 hpw hmw _ 0 [] rfl (Nat.zero_le _) rfl (fun s hs => by simp at hs)
  | succ d ih =>
    intro i top hd hi ht0 ht1 hall
    by_cases c1 : rd x (i : Int) > 1125899906842624
    · exact ev_step (fun k => by rw [merkhetlaw15_RelaxSure.l0, if_pos (by omega), if_pos (by omega), if_pos (by omega), if_pos c1]) fixedS
    by_cases c2 : rd x (i : Int) < -1125899906842624
    · exact ev_step (fun k => by rw [merkhetlaw15_RelaxSure.l0, if_pos (by omega), if_pos (by omega), if_pos (by omega), if_neg c1, if_pos c2]) fixedS
    have hmx : top ≤ mx top (rd x (i : Int)) ∧ rd x (i : Int) ≤ mx top (rd x (i : Int)) ∧ mx top (rd x (i : Int)) ≤ 1125899906842624 := by unfold mx; split <;> omega
    refine ev_step (fun k => ?_) (ih (i + 1) (mx top (rd x (i : Int))) (by omega) (by omega) (by omega) hmx.2.2 (fun j hj => by
      rcases Nat.lt_or_ge j i with h | h
      · have := hall j h; omega
      · have hji : j = i := by omega
        rw [hji]; omega))
    rw [merkhetlaw15_RelaxSure.l0, if_pos (by omega), if_pos (by omega), if_pos (by omega), if_neg c1, if_neg c2, w64t i (by omega)]
theorem u8_in {x : Int} (h : (Lit.int .u8 x).wf = true) : 0 ≤ x ∧ x ≤ 255 := by
  simp [Lit.wf, IntKind.min, IntKind.max, IntKind.signed, IntKind.bits] at h; omega
theorem u32_in {x : Int} (h : (Lit.int .u32 x).wf = true) : 0 ≤ x ∧ x ≤ 4294967295 := by
  simp [Lit.wf, IntKind.min, IntKind.max, IntKind.signed, IntKind.bits] at h; omega
theorem RelaxSure : merkhetlaw15_RelaxSure.Pure := by
  intro x ps more hx1 hx2 hxw hp1 hpw hm1 hm2 hmw
  refine Ev.rounds (g := fun k => merkhetlaw15_RelaxSure.f k x ps more) ?_
  unfold merkhetlaw15_RelaxSure.f
  have j0t : Ev (fun k => merkhetlaw15_RelaxSure.j0 k x ps more (x.length : Int) true) true := ev_step (fun k => by rw [merkhetlaw15_RelaxSure.j0, if_pos rfl]) fixedS
  by_cases c1 : (x.length : Int) = 0
  · exact Ev.congr (fun k => by rw [if_pos c1]) j0t
  by_cases c2 : (x.length : Int) > 32
  · exact Ev.congr (fun k => by rw [if_neg c1, if_pos c2]) j0t
  by_cases c3 : (ps.length : Int) > 100
  · exact Ev.congr (fun k => by rw [if_neg c1, if_neg c2, if_pos c3]) j0t
  by_cases c4 : (more.length : Int) = 0
  · exact Ev.congr (fun k => by rw [if_neg c1, if_neg c2, if_neg c3, if_pos c4]) j0t
  refine Ev.congr (fun k => by rw [if_neg c1, if_neg c2, if_neg c3, if_neg c4]) ?_
  by_cases c5 : (more.length : Int) > 100
  · rw [decide_eq_true c5]; exact j0t
  · rw [decide_eq_false c5]
    refine ev_step (fun k => by rw [merkhetlaw15_RelaxSure.j0, if_neg (by decide)]) ?_
    exact sure_l0 x ps more (by omega) (by omega) (by omega) (by omega) (by omega) (fun s hs => by have h1 := u8_in (hpw s hs).1; have h2 := u8_in (hpw s hs).2; omega) (fun v hv => u32_in (hmw v hv)) _ 0 0 rfl (Nat.zero_le _) (by omega) (by omega) (fun j hj => absurd hj (Nat.not_lt_zero _))
end Go.Proofs.Ytacjlaiddnfpdaa.Pure
