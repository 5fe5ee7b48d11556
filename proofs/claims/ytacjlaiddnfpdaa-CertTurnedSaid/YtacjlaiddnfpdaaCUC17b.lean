/- Offsets that are taken are those that are told, and none else. -/
import Derived.Test.YtacjlaiddnfpdaaCUx3
import Derived.Test.YtacjlaiddnfpdaaCUx2
import Derived.Test.YtacjlaiddnfpdaaCUC15y
import Derived.Test.YtacjlaiddnfpdaaCUC17a
set_option linter.unusedVariables false
namespace Go.Proofs.Ytacjlaiddnfpdaa.CU
open Go.RowKit Go.Proofs.Ytacjlaiddnfpdaa.H Go.Proofs.YtacjlaiddnfpdaaW.PrintWords Go.Proofs.YtacjlaiddnfpdaaW.PrintLast Go.Proofs.YtacjlaiddnfpdaaW.PrintMore
theorem index_l0 (l : List Bool) (hn : l.length < 9000000000000000000) : ∀ (d i : Nat), l.length - i = d → i ≤ l.length → ∃ r : Int, Ev (fun k => slices_Index_bool_bool.l0 k l false (l.length : Int) (i : Int)) r ∧ (r ≥ 0 ↔ false ∈ l.drop i) := by
  intro d
  induction d with
  | zero =>
    intro i hd hi
    refine ⟨-1, Ev.step (f := fun _ => some (-1)) (fun k => by rw [slices_Index_bool_bool.l0, if_neg (by omega)]) (Ev.now _), ?_⟩
    rw [List.drop_of_length_le (by omega)]
    simp
  | succ d ih =>
    intro i hd hi
    have hlt : i < l.length := by omega
    have e1 : l.drop i = l[i] :: l.drop (i + 1) := List.drop_eq_getElem_cons hlt
    have e2 : rdOf false l (i : Int) = l[i] := by
      show l.getD _ _ = _
      rw [Int.toNat_natCast, List.getD_eq_getElem?_getD, List.getElem?_eq_getElem hlt]; rfl
    cases hv : l[i] with
    | false =>
      refine ⟨(i : Int), Ev.step (f := fun _ => some (i : Int)) (fun k => by rw [slices_Index_bool_bool.l0, if_pos (by omega), if_pos (by omega), if_pos (by omega), e2, hv, if_pos (show (false == false) = true from rfl)]) (Ev.now _), ?_⟩
      rw [e1, hv]
      exact ⟨fun _ => List.mem_cons_self, fun _ => by omega⟩
    | true =>
      obtain ⟨r, h1, h2⟩ := ih (i + 1) (by omega) (by omega)
      refine ⟨r, Ev.step (fun k => ?_) h1, ?_⟩
      · rw [slices_Index_bool_bool.l0, if_pos (by omega), if_pos (by omega), if_pos (by omega), e2, hv, if_neg (by decide), w64t i (by omega)]
      · rw [h2, e1, hv]; simp
theorem contains_ev (l : List Bool) (hn : l.length < 9000000000000000000) : Ev (fun k => slices_Contains_bool_bool.f k l false) (decide (false ∈ l)) := by
  unfold slices_Contains_bool_bool.f
  obtain ⟨r, h1, h2⟩ := index_l0 l hn l.length 0 rfl (Nat.zero_le _)
  rw [List.drop_zero] at h2
  refine Ev.bind (by unfold slices_Index_bool_bool.f; exact h1) ?_
  rw [show decide (false ∈ l) = decide (r ≥ 0) by rw [decide_eq_decide]; exact h2.symm]
  exact Ev.now _
theorem find_some {x : List Int} {held : List Bool} : ∀ {l : List S48} {t : Int}, cert_Offsets_find x held l = some t → ∃ e ∈ l, e.f1 = t ∧ cert_Offsets_one x held e = true
  | [], t, h => by simp [cert_Offsets_find] at h
  | e :: r, t, h => by
    unfold cert_Offsets_find at h
    by_cases c : cert_Offsets_one x held e = true
    · rw [if_pos c] at h
      exact ⟨e, List.mem_cons_self, Option.some.inj h, c⟩
    · rw [if_neg c] at h
      obtain ⟨e', h1, h2⟩ := find_some h
      exact ⟨e', List.mem_cons_of_mem _ h1, h2⟩
theorem find_none {x : List Int} {held : List Bool} : ∀ {l : List S48}, cert_Offsets_find x held l = none → ∀ e ∈ l, ¬ cert_Offsets_one x held e = true
  | [], _, e, he => by cases he
  | e :: r, h, e', he => by
    unfold cert_Offsets_find at h
    by_cases c : cert_Offsets_one x held e = true
    · rw [if_pos c] at h; cases h
    · rw [if_neg c] at h
      rcases List.mem_cons.1 he with h1 | h1
      · rw [h1]; exact c
      · exact find_none h e' h1
theorem wrapO (a w : Int) (h0 : -288230376151711744 ≤ a) (h1 : a ≤ 0) (w0 : -4503599627370496 ≤ w) (w1 : w ≤ 4503599627370496) : wrap64 (a + w) = a + w := by unfold wrap64; omega
def okX (x : List Int) : Prop := ∀ v ∈ x, -288230376151711744 ≤ v ∧ v ≤ 0
theorem okX_rd {x : List Int} (h : okX x) (a : Int) (h0 : 0 ≤ a) (h1 : a < (x.length : Int)) : -288230376151711744 ≤ rd x a ∧ rd x a ≤ 0 := by
  unfold rd
  rw [List.getD_eq_getElem?_getD, List.getElem?_eq_getElem (show a.toNat < x.length by omega)]
  exact h _ (List.getElem_mem _)
/-- What is known of those that are held. -/
structure HInv (x : List Int) (l : List S48) (n : Nat) (held : List Bool) : Prop where
  len : held.length = x.length
  zero : ∀ a, 0 ≤ a → a < (x.length : Int) → rd x a = 0 → held.getD a.toNat false = true
  low : ∀ a, 0 ≤ a → a < (x.length : Int) → held.getD a.toNat false = true → L (eds l) n a ≤ rd x a
theorem getD_setB (l : List Bool) (i j : Nat) (h : i < l.length) : (l.set i true).getD j false = if j = i then true else l.getD j false := by
  rw [List.getD_eq_getElem?_getD, List.getD_eq_getElem?_getD]
  by_cases c : j = i
  · subst c; rw [List.getElem?_set_self h, if_pos rfl]; rfl
  · rw [List.getElem?_set_ne (Ne.symm c), if_neg c]
theorem one_iff {x : List Int} {held : List Bool} {l : List S48} (hm : mayL (x.length : Int) l) (hx : okX x) {e : S48} (he : e ∈ l) : cert_Offsets_one x held e = true ↔ held.getD e.f0.toNat false = true ∧ held.getD e.f1.toNat false = false ∧ rd x e.f0 + e.f2 = rd x e.f1 := by
  have h := mayL_at hm he
  have h2 := okX_rd hx e.f0 h.1 h.2.1
  unfold cert_Offsets_one
  rw [wrapO _ _ h2.1 h2.2 h.2.2.2.2.1 h.2.2.2.2.2]
  simp only [Bool.and_eq_true, Bool.not_eq_true', beq_iff_eq]
theorem hold_ev {x : List Int} {l : List S48} (hm : mayL (x.length : Int) l) (hx : okX x) (hL : ∀ e ∈ l, L (eds l) x.length e.f1 ≤ L (eds l) x.length e.f0 + e.f2) : ∀ (d : Nat) (held : List Bool), held.count false ≤ d → HInv x l x.length held → ∃ r, Ev (fun k => cert_Offsets_hold l x k held) r ∧ HInv x l x.length r ∧ cert_Offsets_find x r l = none := by
  intro d
  induction d with
  | zero =>
    intro held hd hi
    cases hf : cert_Offsets_find x held l with
    | none => exact ⟨held, Ev.step (f := fun _ => some held) (fun k => by rw [cert_Offsets_hold, hf]) (Ev.now _), hi, hf⟩
    | some t =>
      exfalso
      obtain ⟨e, he, rfl, h1⟩ := find_some hf
      have h2 := ((one_iff hm hx he).1 h1).2.1
      have h := mayL_at hm he
      have hlt : e.f1.toNat < held.length := by rw [hi.len]; omega
      rw [List.getD_eq_getElem?_getD, List.getElem?_eq_getElem hlt] at h2
      have h3 : false ∈ held := by have := List.getElem_mem hlt; simp at h2; rw [h2] at this; exact this
      have := List.count_pos_iff.2 h3
      omega
  | succ d ih =>
    intro held hd hi
    cases hf : cert_Offsets_find x held l with
    | none => exact ⟨held, Ev.step (f := fun _ => some held) (fun k => by rw [cert_Offsets_hold, hf]) (Ev.now _), hi, hf⟩
    | some t =>
      obtain ⟨e, he, rfl, h1⟩ := find_some hf
      obtain ⟨g0, g1, g2⟩ := (one_iff hm hx he).1 h1
      have h := mayL_at hm he
      have hlt : e.f1.toNat < held.length := by rw [hi.len]; omega
      have hv : held[e.f1.toNat] = false := by
        rw [List.getD_eq_getElem?_getD, List.getElem?_eq_getElem hlt] at g1; simpa using g1
      have hcnt : (held.set e.f1.toNat true).count false ≤ d := by
        rw [List.count_set hlt, hv]
        have := List.count_pos_iff.2 (show false ∈ held from hv ▸ List.getElem_mem hlt)
        simp
        omega
      have hi2 : HInv x l x.length (held.set e.f1.toNat true) := by
        refine ⟨by rw [List.length_set]; exact hi.len, fun a h0 h1 h2 => ?_, fun a h0 h1 h2 => ?_⟩
        · rw [getD_setB _ _ _ hlt]
          split
          · rfl
          · exact hi.zero a h0 h1 h2
        · rw [getD_setB _ _ _ hlt] at h2
          by_cases c : a.toNat = e.f1.toNat
          · have : a = e.f1 := by omega
            rw [this, ← g2]
            have h3 := hi.low e.f0 h.1 h.2.1 g0
            have h4 := hL e he
            omega
          · rw [if_neg c] at h2; exact hi.low a h0 h1 h2
      obtain ⟨r, hr1, hr2⟩ := ih _ hcnt hi2
      exact ⟨r, Ev.step (fun k => by rw [cert_Offsets_hold, hf]) hr1, hr2⟩
/-- Offsets that are taken. -/
def takenP (n : Int) (l : List S48) (x : List Int) : Prop := mayL n l ∧ (∀ h, 0 ≤ h → h < n → L (eds l) n.toNat h = L (eds l) (n.toNat - 1) h) ∧ x = rowF n.toNat (L (eds l) n.toNat)
theorem meets_S {n : Int} {l : List S48} (hm : mayL n l) (hc : ∀ h, 0 ≤ h → h < n → L (eds l) n.toNat h = L (eds l) (n.toNat - 1) h) : ∀ s ∈ l, L (eds l) n.toNat s.f1 ≤ L (eds l) n.toNat s.f0 + s.f2 := fun s hs => L_meets hm.2 (fun h a b => hc h a (by have := hm.1; omega)) (ed s) (mem_eds hs)
theorem all_held {x : List Int} {l : List S48} {r : List Bool} (hm : mayL (x.length : Int) l) (hx : okX x) (hc : ∀ h, 0 ≤ h → h < (x.length : Int) → L (eds l) x.length h = L (eds l) (x.length - 1) h) (he : ∀ a, 0 ≤ a → a < (x.length : Int) → rd x a = L (eds l) x.length a) (hi : HInv x l x.length r) (hn : cert_Offsets_find x r l = none) : ∀ (k : Nat), k ≤ x.length → ∀ h, 0 ≤ h → h < (x.length : Int) → L (eds l) k h = L (eds l) x.length h → r.getD h.toNat false = true := by
  intro k
  induction k using Nat.strongRecOn with
  | _ k ih =>
    intro hk h h0 h1 hL
    rcases L_tight hm.2 (fun h a b => hc h a b) k hk h h0 h1 hL with h2 | ⟨e, hem, k', hk', e1, e2, e3, e4⟩
    · exact hi.zero h h0 h1 (by rw [he h h0 h1]; exact h2)
    · obtain ⟨s, hs, rfl⟩ := List.mem_map.1 hem
      have hat := mayL_at hm hs
      have hf : r.getD s.f0.toNat false = true := ih k' hk' (by omega) s.f0 hat.1 hat.2.1 e4
      cases hv : r.getD h.toNat false with
      | true => rfl
      | false =>
        refine absurd ((one_iff hm hx hs).2 ⟨hf, ?_, ?_⟩) (find_none hn s hs)
        · rw [show s.f1 = h from e1]; exact hv
        · rw [he _ hat.1 hat.2.1, he _ hat.2.2.1 hat.2.2.2.1, show s.f1 = h from e1]; exact e3
open Classical in
theorem certOffsets_ev (n : Int) (l : List S48) (x : List Int) (hl : l.length ≤ 1000000) (hx : ∀ v ∈ x, i64B v) (hs : ∀ s ∈ l, i64B s.f2) : Ev (fun k => cert_Offsets.f k n l x) (decide (takenP n l x)) := by
  have hno : ¬ takenP n l x → ∀ {g : Nat → Option Bool}, Ev g false → Ev g (decide (takenP n l x)) := fun h g hg => by rw [decide_eq_false h]; exact hg
  unfold cert_Offsets.f
  refine Ev.congr (fun k => by rw [relaxMay_eq, Option.bind_some]) ?_
  by_cases hm : mayL n l
  case neg =>
    exact Ev.congr (f := fun _ => some (decide (takenP n l x))) (fun k => by rw [decide_eq_false hm, if_neg Bool.false_ne_true, decide_eq_false (fun h : takenP n l x => hm h.1)]) (Ev.now _)
  refine Ev.congr (fun k => by rw [decide_eq_true hm, if_pos rfl]) ?_
  have h0 := hm.1
  have h32 := hm.2.n32
  by_cases hn : (x.length : Int) = n
  case neg =>
    refine hno (fun h => hn ?_) (Ev.congr (f := fun _ => some false) (fun k => by rw [if_neg hn]) (Ev.now _))
    rw [h.2.2, rowF_length]; omega
  subst hn
  refine Ev.congr (fun k => by rw [if_pos rfl]) ?_
  refine Ev.bind (boundAll_ev l x hx hs) ?_
  rw [Int.toNat_natCast] at h32
  have hrow : ∀ a, 0 ≤ a → a < (x.length : Int) → rd (rowF x.length (L (eds l) x.length)) a = L (eds l) x.length a := fun a a0 a1 => rowF_rd _ _ a a0 a1
  have htk : takenP (x.length : Int) l x → (∀ h, 0 ≤ h → h < (x.length : Int) → L (eds l) x.length h = L (eds l) (x.length - 1) h) ∧ ∀ a, 0 ≤ a → a < (x.length : Int) → rd x a = L (eds l) x.length a := fun h => by
    have h1 := h.2.1
    have h2 := h.2.2
    rw [Int.toNat_natCast] at h1 h2
    refine ⟨h1, fun a a0 a1 => ?_⟩
    have h3 := congrArg (fun y => rd y a) h2
    exact h3.trans (hrow a a0 a1)
  have hms : ∀ (hc : ∀ h, 0 ≤ h → h < (x.length : Int) → L (eds l) x.length h = L (eds l) (x.length - 1) h), ∀ s ∈ l, L (eds l) x.length s.f1 ≤ L (eds l) x.length s.f0 + s.f2 := fun hc s hs => by
    have := meets_S hm (by rw [Int.toNat_natCast]; exact hc) s hs
    rwa [Int.toNat_natCast] at this
  by_cases ha : ∀ s ∈ l, holdsB x s
  case neg =>
    refine hno (fun h => ha fun s hs => ?_) (Ev.congr (f := fun _ => some false) (fun k => by rw [decide_eq_false ha, if_neg Bool.false_ne_true]) (Ev.now _))
    have h1 := mayL_at hm hs
    obtain ⟨h2, h3⟩ := htk h
    have h4 := hms h2 s hs
    exact ⟨h1.1, h1.2.1, h1.2.2.1, h1.2.2.2.1, by rw [h3 _ h1.1 h1.2.1, h3 _ h1.2.2.1 h1.2.2.2.1]; exact h4⟩
  have hin : cert_Offsets_in (x.length : Int) l = true := List.all_eq_true.2 fun s hs => decide_eq_true (by have h1 := mayL_at hm hs; exact ⟨h1.1, h1.2.1, h1.2.2.1, h1.2.2.2.1⟩)
  refine Ev.congr (fun k => by rw [decide_eq_true ha, if_pos rfl, if_pos ⟨by omega, hl, hin⟩]) ?_
  by_cases hbad : x.any cert_Offsets_bad = true
  · refine hno (fun h => ?_) (Ev.congr (f := fun _ => some false) (fun k => by rw [if_pos hbad]) (Ev.now _))
    obtain ⟨v, hv, hb⟩ := List.any_eq_true.1 hbad
    obtain ⟨i, hi, rfl⟩ := List.getElem_of_mem hv
    have h3 := (htk h).2 (i : Int) (by omega) (by omega)
    have h4 : rd x (i : Int) = x[i] := by rw [rdt, List.getD_eq_getElem?_getD, List.getElem?_eq_getElem hi]; rfl
    have h5 := L_low hm.2 x.length (i : Int)
    have h6 := L_nonpos (eds l) x.length (i : Int)
    unfold cert_Offsets_bad at hb
    simp only [Bool.or_eq_true, decide_eq_true_eq] at hb
    omega
  refine Ev.congr (fun k => by rw [if_neg hbad]) ?_
  have hxx : okX x := fun v hv => by
    have h1 : ¬ cert_Offsets_bad v = true := fun h => hbad (List.any_eq_true.2 ⟨v, hv, h⟩)
    unfold cert_Offsets_bad at h1
    simp only [Bool.or_eq_true, decide_eq_true_eq, not_or] at h1
    omega
  have hc : ∀ h, 0 ≤ h → h < (x.length : Int) → L (eds l) x.length h = L (eds l) (x.length - 1) h := by
    have := conv_of hm (x := rd x) (fun s hs => (ha s hs).2.2.2.2)
    rwa [Int.toNat_natCast] at this
  have hup : ∀ a, 0 ≤ a → a < (x.length : Int) → rd x a ≤ L (eds l) x.length a := fun a a0 a1 =>
    L_greatest hm.2 (x := rd x) (fun e he => by obtain ⟨s, hs, rfl⟩ := List.mem_map.1 he; exact (ha s hs).2.2.2.2) (fun h b0 b1 => (okX_rd hxx h b0 (by rw [Int.toNat_natCast] at b1; exact b1)).2) x.length a a0 (by rw [Int.toNat_natCast]; exact a1)
  have hget : ∀ a, 0 ≤ a → a < (x.length : Int) → (x.map (· == 0)).getD a.toNat false = (rd x a == 0) := fun a a0 a1 => by
    unfold rd
    rw [List.getD_eq_getElem?_getD, List.getD_eq_getElem?_getD, List.getElem?_map, List.getElem?_eq_getElem (show a.toNat < x.length by omega)]; rfl
  have hi0 : HInv x l x.length (x.map (· == 0)) := ⟨by simp, fun a a0 a1 h => by rw [hget a a0 a1, h]; rfl, fun a a0 a1 h => by
    rw [hget a a0 a1] at h
    rw [beq_iff_eq.1 h]
    exact L_nonpos _ _ _⟩
  obtain ⟨r, hr, hi, hf⟩ := hold_ev hm hxx (hms hc) _ _ (Nat.le_refl _) hi0
  refine Ev.bind hr (Ev.bind (contains_ev r (by rw [hi.len]; omega)) ?_)
  have heq : takenP (x.length : Int) l x ↔ false ∉ r := by
    constructor
    · intro h hmem
      obtain ⟨i, hil, hiv⟩ := List.getElem_of_mem hmem
      have := all_held hm hxx hc (htk h).2 hi hf x.length (Nat.le_refl _) (i : Int) (by omega) (by rw [← hi.len]; omega) rfl
      rw [Int.toNat_natCast, List.getD_eq_getElem?_getD, List.getElem?_eq_getElem hil] at this
      simp [hiv] at this
    · intro h
      refine ⟨hm, by rw [Int.toNat_natCast]; exact hc, ?_⟩
      rw [Int.toNat_natCast]
      apply List.ext_getElem
      · rw [rowF_length]
      · intro i h1 h2
        have e1 : rd x (i : Int) = x[i] := by rw [rdt, List.getD_eq_getElem?_getD, List.getElem?_eq_getElem h1]; rfl
        have e2 := hrow (i : Int) (by omega) (by omega)
        rw [rdt, List.getD_eq_getElem?_getD, List.getElem?_eq_getElem h2] at e2
        have e3 : r.getD (i : Int).toNat false = true := by
          cases hv : r.getD (i : Int).toNat false with
          | true => rfl
          | false =>
            rw [Int.toNat_natCast, List.getD_eq_getElem?_getD, List.getElem?_eq_getElem (show i < r.length by rw [hi.len]; exact h1)] at hv
            exact absurd (by have := List.getElem_mem (show i < r.length by rw [hi.len]; exact h1); simp at hv; rw [hv] at this; exact this) h
        have e4 := hi.low (i : Int) (by omega) (by omega) e3
        have e5 := hup (i : Int) (by omega) (by omega)
        rw [← e1]
        exact (show rd x (i : Int) = L (eds l) x.length (i : Int) by omega).trans e2.symm
  refine Ev.congr (f := fun _ => some (decide (takenP (x.length : Int) l x))) (fun k => ?_) (Ev.now _)
  congr 1
  rw [Bool.eq_iff_iff]
  simp only [Bool.not_eq_true', decide_eq_false_iff_not, decide_eq_true_eq]
  exact heq.symm
end Go.Proofs.Ytacjlaiddnfpdaa.CU
