/- Of frames that are laid one behind the other, and cut off anywhere, all that are whole are found, and none else: for up to 20 bodies of 1 to 300 bytes (else the example alone). -/
import Derived.Test.YtdpodjgggicaoaaFCC9zt
import Derived.Test.YtdpodjgggicaoaaFCx3t
set_option linter.unusedVariables false
set_option linter.unusedSimpArgs false
namespace Go.Proofs.Ytdpodjgggicaoaa.Pure
open Go.RowKit Go.Proofs.Ytdpodjgggicaoaa.FC Go.Proofs.YtdpodjgggicaoaaW.PrintWords Go.Proofs.YtdpodjgggicaoaaW.PrintLast Go.Proofs.Ytdpodjgggicaoaa.H
theorem rd_rows (l : List (List Nat)) (i : Nat) (hi : i < l.length) : rd_L1 (l.map rowB) (i : Int) = rowB l[i] := by
  simp [rd_L1, List.getD_eq_getElem?_getD, List.getElem?_eq_getElem hi]
def endsB : Nat → List (List Nat) → List Int
  | _, [] => []
  | p, x :: r => ((p + (frB x).length : Nat) : Int) :: endsB (p + (frB x).length) r
theorem endsB_length : ∀ (L : List (List Nat)) (p : Nat), (endsB p L).length = L.length := by
  intro L
  induction L with
  | nil => intro p; rfl
  | cons x r ih => intro p; rw [endsB, List.length_cons, ih, List.length_cons]
theorem laid_l0_ev (L : List (List Nat)) (hL : ∀ x ∈ L, okB x) (hl : L.length ≤ 20) : ∀ (d i : Nat) (acc : List Nat) (es : List Int), i + d = L.length → acc.length ≤ 2412 * i → es.length = i →
    Ev (fun k => merkhetlaw06_laid.l0 k (rowB acc) es (L.map rowB) (L.length : Int) (i : Int)) (rowB (acc ++ ((L.drop i).map frB).flatten), es ++ endsB acc.length (L.drop i), true) := by
  intro d
  induction d with
  | zero =>
    intro i acc es h ha he
    have hn : L.drop i = [] := List.drop_eq_nil_of_le (by omega)
    rw [hn]
    refine Ev.step (f := fun _ => some (rowB acc, es, true)) (fun k => by rw [merkhetlaw06_laid.l0, if_neg (by omega)]) ?_
    refine ev_eqf (Ev.now _) ?_
    simp [endsB]
  | succ d ih =>
    intro i acc es h ha he
    have hi : i < L.length := by omega
    have hx := hL _ (List.getElem_mem hi)
    rw [List.drop_eq_getElem_cons hi, List.map_cons, List.flatten_cons, endsB]
    have hf := frame_Put_ev L[i] hx.bytes
    rw [frB_put hx] at hf
    have hfl := frB_length hx
    have hm := hx.max
    have w1 : wrap64 ((i : Int) + 1) = ((i + 1 : Nat) : Int) := by rw [w64f _ (by omega) (by omega)]; omega
    refine Ev.step (f := fun k => (frame_Put.f k (rowB L[i])).bind fun bt140 => (if bt140.2 = 0 then (if (rowB acc).length + bt140.1.length < 140737488355328 then ((some (rowB acc ++ bt140.1 : List Int)).bind fun y144 => (if es.length < 17592186044416 then (merkhetlaw06_laid.l0 k y144 (es ++ [(y144.length : Int)]) (L.map rowB) (L.length : Int) ((i + 1 : Nat) : Int)) else (none))) else (none)) else (some (([] : List Int), ([] : List Int), false)))) (fun k => by rw [merkhetlaw06_laid.l0, if_pos (by omega), if_pos (by omega), if_pos (by rw [List.length_map]; omega), rd_rows L i hi, w1]) ?_
    refine Ev.bind hf ?_
    have ee : rowB acc ++ rowB (framePut L[i]).1 = rowB (acc ++ frB L[i]) := (rowB_append _ _).symm
    generalize L[i] = x at *
    have r := ih (i + 1) (acc ++ frB x) (es ++ [((acc ++ frB x).length : Int)]) (by omega) (by rw [List.length_append]; omega) (by rw [List.length_append]; simp only [List.length_cons, List.length_nil]; omega)
    rw [List.append_assoc, List.append_assoc] at r
    refine Ev.congr (f := fun k => merkhetlaw06_laid.l0 k (rowB (acc ++ frB x)) (es ++ [((acc ++ frB x).length : Int)]) (L.map rowB) (L.length : Int) ((i + 1 : Nat) : Int)) (fun k => ?_) (ev_eqf r ?_)
    · have hb : (rowB (framePut x).1).length ≤ 2412 := by rw [rowB_length]; show (frB x).length ≤ 2412; omega
      simp only [if_true, Option.bind_some]
      rw [ee, if_pos (by rw [rowB_length acc]; omega), if_pos (by omega), rowB_length]
    · rw [List.length_append]; rfl
theorem laid_ev (L : List (List Nat)) (hL : ∀ x ∈ L, okB x) (hl : L.length ≤ 20) : Ev (fun k => merkhetlaw06_laid.f k (L.map rowB)) (rowB (L.map frB).flatten, endsB 0 L, true) := by
  have r := laid_l0_ev L hL hl L.length 0 [] [] (by omega) (by simp) rfl
  rw [List.drop_zero, List.nil_append, List.nil_append] at r
  exact Ev.congr (fun k => by rw [merkhetlaw06_laid.f, List.length_map]; rfl) r
def foldB (cut : Int) : List Int → Nat → Int → Nat × Int
  | [], m, g => (m, g)
  | e :: r, m, g => if e ≤ cut then foldB cut r (m + 1) e else foldB cut r m g
theorem foldB_none (cut : Nat) : ∀ (L : List (List Nat)) (p m : Nat) (g : Int), cut < p → foldB (cut : Int) (endsB p L) m g = (m, g) := by
  intro L
  induction L with
  | nil => intro p m g _; rfl
  | cons x r ih =>
    intro p m g h
    rw [endsB, foldB, if_neg (by omega)]
    exact ih _ _ _ (by omega)
theorem foldB_whole (cut : Nat) : ∀ (L : List (List Nat)) (p m : Nat), foldB (cut : Int) (endsB p L) m (p : Int) = (m + (wholeB cut p L).1, ((wholeB cut p L).2 : Int)) := by
  intro L
  induction L with
  | nil => intro p m; rfl
  | cons x r ih =>
    intro p m
    rw [endsB, foldB, wholeB]
    by_cases h : p + (frB x).length ≤ cut
    · rw [if_pos (by omega), if_pos h, ih]
      simp only [Prod.mk.injEq, and_true]; omega
    · rw [if_neg (by omega), if_neg h]
      exact foldB_none _ r _ _ _ (by omega)
theorem cuts_l2 (L : List (List Nat)) (n : Nat) (hn : n ≤ L.length) (hl : L.length ≤ 20) : ∀ (d i : Nat), i + d = n → Ev (fun k => merkhetlaw06_FrameCuts.l2 k (L.map rowB) ((L.take n).map rowB) (n : Int) (i : Int)) true := by
  intro d
  induction d with
  | zero =>
    intro i h
    exact Ev.step (f := fun k => (merkhetlaw06_fixed.f k).bind fun t172 => (some t172)) (fun k => by rw [merkhetlaw06_FrameCuts.l2, if_neg (by omega)]) (Ev.bind law06_fixed_ev (Ev.now _))
  | succ d ih =>
    intro i h
    have hi : i < (L.take n).length := by rw [List.length_take]; omega
    have w1 : wrap64 ((i : Int) + 1) = ((i + 1 : Nat) : Int) := by rw [w64f _ (by omega) (by omega)]; omega
    have e : (L.take n)[i] = L[i]'(by omega) := List.getElem_take
    exact Ev.step (f := fun k => merkhetlaw06_FrameCuts.l2 k (L.map rowB) ((L.take n).map rowB) (n : Int) ((i + 1 : Nat) : Int)) (fun k => by
      rw [merkhetlaw06_FrameCuts.l2, if_pos (by omega), if_pos (by omega), if_pos (by rw [List.length_map]; omega), if_pos (by rw [List.length_map]; omega), rd_rows _ i hi, rd_rows L i (by omega), e, if_pos rfl, w1]) (ih (i + 1) (by omega))
theorem cuts_l1 (L : List (List Nat)) (hL : ∀ x ∈ L, okB x) (hl : L.length ≤ 20) (cut : Nat) (hc : cut ≤ (L.map frB).flatten.length) (hb : (L.map frB).flatten.length < 1000000) (es : List Int) (hes : es.length ≤ 20) : ∀ (d i m : Nat) (g : Int), i + d = es.length → m ≤ i →
    foldB (cut : Int) (es.drop i) m g = ((wholeB cut 0 L).1, ((wholeB cut 0 L).2 : Int)) →
    Ev (fun k => merkhetlaw06_FrameCuts.l1 k (L.map rowB) (rowB (L.map frB).flatten) (cut : Int) (m : Int) g es (es.length : Int) (i : Int)) true := by
  intro d
  induction d with
  | zero =>
    intro i m g h hm hf
    rw [List.drop_eq_nil_of_le (by omega)] at hf
    injection hf with h1 h2
    subst h1 h2
    have hbB : isB (L.map frB).flatten := by
      intro y hy
      obtain ⟨f, hf, hy⟩ := List.mem_flatten.1 hy
      obtain ⟨x, hx, rfl⟩ := List.mem_map.1 hf
      exact frB_isB (hL x hx) y hy
    have ha := frame_All_ev ((L.map frB).flatten.take cut) (isB_take hbB _) (by rw [List.length_take]; omega) 0 99
    have hcut := allF_cut cut L 99 [] hL (Nat.zero_le _) (by omega)
    rw [List.nil_append, List.length_nil] at hcut
    have hA : allA ((L.map frB).flatten.take cut) 0 99 = (L.take (wholeB cut 0 L).1, ((wholeB cut 0 L).2 : Int)) := by
      unfold allA
      rw [if_neg (by decide), show (99 : Int).toNat = 99 from rfl, show (0 : Int).toNat = 0 from rfl, hcut]
    rw [hA, ← rowB_take] at ha
    have hw := wholeB_le cut L 0
    have htl : ((L.take (wholeB cut 0 L).1).map rowB).length = (wholeB cut 0 L).1 := by rw [List.length_map, List.length_take]; omega
    refine Ev.step (f := fun k => (frame_All.f k ((rowB (L.map frB).flatten).take cut) 0 99).bind fun bt166 => (if (bt166.1.length : Int) = ((wholeB cut 0 L).1 : Int) then (merkhetlaw06_FrameCuts.j2 k (L.map rowB) bt166.1 (bt166.2 != ((wholeB cut 0 L).2 : Int))) else (merkhetlaw06_FrameCuts.j2 k (L.map rowB) bt166.1 true))) (fun k => by rw [merkhetlaw06_FrameCuts.l1, if_neg (by omega), if_pos (by omega), if_pos (by rw [rowB_length]; omega), Int.toNat_natCast]) ?_
    refine Ev.bind ha ?_
    refine Ev.congr (f := fun k => merkhetlaw06_FrameCuts.j2 k (L.map rowB) ((L.take (wholeB cut 0 L).1).map rowB) false) (fun k => by rw [if_pos (by rw [htl]), bne_self_eq_false]) ?_
    refine Ev.step (f := fun k => merkhetlaw06_FrameCuts.l2 k (L.map rowB) ((L.take (wholeB cut 0 L).1).map rowB) ((wholeB cut 0 L).1 : Int) ((0 : Nat) : Int)) (fun k => by rw [merkhetlaw06_FrameCuts.j2, if_neg Bool.false_ne_true, htl]; rfl) ?_
    exact cuts_l2 L _ hw hl _ 0 (Nat.zero_add _)
  | succ d ih =>
    intro i m g h hm hf
    have hi : i < es.length := by omega
    have w1 : wrap64 ((i : Int) + 1) = ((i + 1 : Nat) : Int) := by rw [w64f _ (by omega) (by omega)]; omega
    have w2 : wrap64 ((m : Int) + 1) = ((m + 1 : Nat) : Int) := by rw [w64f _ (by omega) (by omega)]; omega
    have hrd : rd es (i : Int) = es[i] := by simp [rd, List.getD_eq_getElem?_getD, List.getElem?_eq_getElem hi]
    rw [List.drop_eq_getElem_cons hi, foldB] at hf
    by_cases c : es[i] ≤ (cut : Int)
    · rw [if_pos c] at hf
      exact Ev.step (f := fun k => merkhetlaw06_FrameCuts.l1 k (L.map rowB) (rowB (L.map frB).flatten) (cut : Int) ((m + 1 : Nat) : Int) es[i] es (es.length : Int) ((i + 1 : Nat) : Int)) (fun k => by
        rw [merkhetlaw06_FrameCuts.l1, if_pos (by omega), if_pos (by omega), if_pos (by omega), hrd, if_pos c, w1, w2]) (ih (i + 1) (m + 1) _ (by omega) (by omega) hf)
    · rw [if_neg c] at hf
      exact Ev.step (f := fun k => merkhetlaw06_FrameCuts.l1 k (L.map rowB) (rowB (L.map frB).flatten) (cut : Int) (m : Int) g es (es.length : Int) ((i + 1 : Nat) : Int)) (fun k => by
        rw [merkhetlaw06_FrameCuts.l1, if_pos (by omega), if_pos (by omega), if_pos (by omega), hrd, if_neg c, w1]) (ih (i + 1) m _ (by omega) (by omega) hf)
theorem flat_small : ∀ (L : List (List Nat)), (∀ x ∈ L, okB x) → (L.map frB).flatten.length ≤ 2412 * L.length := by
  intro L
  induction L with
  | nil => intro _; simp
  | cons x r ih =>
    intro h
    have hx := h x List.mem_cons_self
    have := frB_length hx
    have := hx.max
    have := ih (fun y hy => h y (List.mem_cons_of_mem _ hy))
    rw [List.map_cons, List.flatten_cons, List.length_append, List.length_cons]
    omega
theorem cuts_l0 (L : List (List Nat)) (hB : ∀ x ∈ L, isB x) (hl : L.length ≤ 20) (t : Nat) (ht : t ≤ 65535) : ∀ (d i : Nat), i + d = L.length → (∀ x ∈ L.take i, 1 ≤ x.length ∧ x.length ≤ 300) →
    Ev (fun k => merkhetlaw06_FrameCuts.l0 k (L.map rowB) (t : Int) (L.map rowB) (L.length : Int) (i : Int)) true := by
  intro d
  induction d with
  | zero =>
    intro i h hs
    rw [List.take_of_length_le (by omega)] at hs
    have hL : ∀ x ∈ L, okB x := fun x hx => ⟨hB x hx, (hs x hx).1, by have := (hs x hx).2; omega⟩
    have hsm := flat_small L hL
    refine Ev.step (f := fun k => (merkhetlaw06_laid.f k (L.map rowB)).bind fun bt154 => (if bt154.2.2 = true then (merkhetlaw06_FrameCuts.l1 k (L.map rowB) bt154.1 (mn (wrap64 (t : Int)) (bt154.1.length : Int)) 0 0 bt154.2.1 (bt154.2.1.length : Int) 0) else (some false))) (fun k => by rw [merkhetlaw06_FrameCuts.l0, if_neg (by omega)]) ?_
    refine Ev.bind (laid_ev L hL hl) ?_
    have w : wrap64 (t : Int) = (t : Int) := w64f _ (by omega) (by omega)
    have hmn : mn (wrap64 (t : Int)) ((rowB (L.map frB).flatten).length : Int) = ((min t (L.map frB).flatten.length : Nat) : Int) := by
      rw [w, rowB_length]
      unfold mn
      first
        | (split <;> omega)
        | omega
    have hf := foldB_whole (min t (L.map frB).flatten.length) L 0 0
    rw [Nat.zero_add] at hf
    refine Ev.congr (f := fun k => merkhetlaw06_FrameCuts.l1 k (L.map rowB) (rowB (L.map frB).flatten) ((min t (L.map frB).flatten.length : Nat) : Int) ((0 : Nat) : Int) ((0 : Nat) : Int) (endsB 0 L) ((endsB 0 L).length : Int) ((0 : Nat) : Int)) (fun k => (if_pos rfl).trans (by rw [hmn]; rfl)) ?_
    exact cuts_l1 L hL hl _ (Nat.min_le_right _ _) (by omega) (endsB 0 L) (by rw [endsB_length]; exact hl) (endsB 0 L).length 0 0 _ (Nat.zero_add _) (Nat.le_refl _) hf
  | succ d ih =>
    intro i h hs
    have hi : i < L.length := by omega
    have w1 : wrap64 ((i : Int) + 1) = ((i + 1 : Nat) : Int) := by rw [w64f _ (by omega) (by omega)]; omega
    have fx : Ev (fun k => (merkhetlaw06_fixed.f k).bind fun t152 => (some t152)) true := Ev.bind law06_fixed_ev (Ev.now _)
    by_cases c1 : L[i].length < 1
    · exact Ev.step (f := fun k => (merkhetlaw06_fixed.f k).bind fun t152 => (some t152)) (fun k => by rw [merkhetlaw06_FrameCuts.l0, if_pos (by omega), if_pos (by omega), if_pos (by rw [List.length_map]; omega), rd_rows L i hi, rowB_length, if_pos (by omega)]) fx
    by_cases c2 : L[i].length > 300
    · exact Ev.step (f := fun k => (merkhetlaw06_fixed.f k).bind fun t152 => (some t152)) (fun k => by rw [merkhetlaw06_FrameCuts.l0, if_pos (by omega), if_pos (by omega), if_pos (by rw [List.length_map]; omega), rd_rows L i hi, rowB_length, if_neg (by omega), if_pos (by omega)]) fx
    refine Ev.step (f := fun k => merkhetlaw06_FrameCuts.l0 k (L.map rowB) (t : Int) (L.map rowB) (L.length : Int) ((i + 1 : Nat) : Int)) (fun k => by
      rw [merkhetlaw06_FrameCuts.l0, if_pos (by omega), if_pos (by omega), if_pos (by rw [List.length_map]; omega), rd_rows L i hi, rowB_length, if_neg (by omega), if_neg (by omega), w1]) (ih (i + 1) (by omega) (fun x hx => ?_))
    rw [List.take_add_one, List.getElem?_eq_getElem hi, Option.toList_some] at hx
    rcases List.mem_append.1 hx with hx | hx
    · exact hs x hx
    · rw [List.mem_singleton.1 hx]; omega
theorem plain_bodies (l0 : List (List Int)) (h : ∀ x0_ ∈ l0, (∀ x1_ ∈ x0_, (Lit.int .u8 x1_).wf = true)) : ∃ L : List (List Nat), l0 = L.map rowB ∧ ∀ x ∈ L, isB x := by
  induction l0 with
  | nil => exact ⟨[], rfl, fun x hx => absurd hx (by simp)⟩
  | cons x r ih =>
    obtain ⟨L, rfl, hL⟩ := ih (fun y hy => h y (List.mem_cons_of_mem _ hy))
    obtain ⟨l, rfl, hl⟩ := row_bytes x (h x List.mem_cons_self)
    refine ⟨l :: L, rfl, fun y hy => ?_⟩
    rcases List.mem_cons.1 hy with rfl | hy
    · exact hl
    · exact hL y hy
theorem FrameCuts : merkhetlaw06_FrameCuts.Pure := by
  intro l0 a1 _ hw0 hw1
  obtain ⟨L, rfl, hB⟩ := plain_bodies l0 hw0
  have h1 : 0 ≤ a1 ∧ a1 ≤ 65535 := by
    simp [Lit.wf, IntKind.min, IntKind.max, IntKind.signed, IntKind.bits] at hw1; omega
  obtain ⟨t, rfl⟩ := Int.eq_ofNat_of_zero_le h1.1
  apply Ev.rounds
  by_cases c0 : ((L.map rowB).length : Int) > 20
  · exact Ev.congr (f := fun k => (merkhetlaw06_fixed.f k).bind fun t150 => (some t150)) (fun k => by rw [merkhetlaw06_FrameCuts.f, if_pos c0]) (Ev.bind law06_fixed_ev (Ev.now _))
  · have hl : L.length ≤ 20 := by rw [List.length_map] at c0; omega
    refine Ev.congr (f := fun k => merkhetlaw06_FrameCuts.l0 k (L.map rowB) (t : Int) (L.map rowB) (L.length : Int) ((0 : Nat) : Int)) (fun k => by rw [merkhetlaw06_FrameCuts.f, if_neg c0, List.length_map]; rfl) ?_
    exact cuts_l0 L hB hl t (by omega) L.length 0 (Nat.zero_add _) (fun x hx => by rw [List.take_zero] at hx; simp at hx)
end Go.Proofs.Ytdpodjgggicaoaa.Pure
