/- Layer 10's Of, the document's: it is the plain one of H15. -/
import Derived.Test.YthlekphkibeflaaEx7
import Derived.Test.YthlekphkibeflaaEx8
import Derived.Test.YthlekphkibeflaaEC19m
import Derived.Test.YthlekphkibeflaaH15
set_option linter.unusedVariables false
namespace Go.Proofs.Ythlekphkibeflaa.E
open Go.RowKit Go.Proofs.Ythlekphkibeflaa.H Go.Proofs.YthlekphkibeflaaW.PrintWords Go.Proofs.YthlekphkibeflaaW.PrintLast Go.Proofs.YthlekphkibeflaaW.PrintMore
open Classical in
theorem on_l0 {p : List Int} (hp : okP p) (hn : p.length < 1000000000) (a : Int) (h0 : 0 ≤ a) (h1 : a < (p.length : Int)) : ∀ (d i : Nat), p.length + 1 - i = d → 1 ≤ i → i ≤ p.length + 1 → (∀ j, 1 ≤ j → j < i → up p j a ≠ a) → Ev (fun k => merkhetref10_on.l0 k p a (i : Int)) (decide (cyc p a)) := by
  intro d
  induction d with
  | zero =>
    intro i hd hi1 hi hall
    obtain rfl : i = p.length + 1 := by omega
    rw [show decide (cyc p a) = false from decide_eq_false (fun hc => by
      obtain ⟨m, hm, hmn, he⟩ := cyc_short hp h1 hc
      exact hall m hm (by omega) he)]
    exact Ev.step_ (f := fun _ => some false) (fun k => by rw [merkhetref10_on.l0, if_neg (by omega)]) (Ev.now _)
  | succ d ih =>
    intro i hd hi1 hi hall
    by_cases c : up p i a = a
    · rw [show decide (cyc p a) = true from decide_eq_true ⟨h0, i, hi1, c⟩]
      refine Ev.step_ (f := fun k => (merkhetref10_up.f k p a (i : Int)).bind fun t => if t = a then some true else merkhetref10_on.l0 k p a (wrap64 ((i : Int) + 1))) (fun k => by rw [merkhetref10_on.l0, if_pos (by omega)]) ?_
      refine Ev.bind (up_ev hp i (by omega) a (by omega) h1) ?_
      rw [c]
      exact Ev.congr (f := fun _ => some true) (fun k => by rw [if_pos rfl]) (Ev.now _)
    · refine Ev.step_ (f := fun k => (merkhetref10_up.f k p a (i : Int)).bind fun t => if t = a then some true else merkhetref10_on.l0 k p a (wrap64 ((i : Int) + 1))) (fun k => by rw [merkhetref10_on.l0, if_pos (by omega)]) ?_
      refine Ev.bind (up_ev hp i (by omega) a (by omega) h1) ?_
      refine Ev.congr (f := fun k => merkhetref10_on.l0 k p a ((i + 1 : Nat) : Int)) (fun k => by rw [if_neg c, w64s i (by omega)]) ?_
      exact ih (i + 1) (by omega) (by omega) (by omega) (fun j h2 h3 => by
        rcases Nat.lt_or_ge j i with h | h
        · exact hall j h2 h
        · obtain rfl : j = i := by omega
          exact c)
open Classical in
theorem on_ev {p : List Int} (hp : okP p) (hn : p.length < 1000000000) (a : Int) (h0 : 0 ≤ a) (h1 : a < (p.length : Int)) : Ev (fun k => merkhetref10_on.f k p a) (decide (cyc p a)) :=
  on_l0 hp hn a h0 h1 _ 1 rfl (Nat.le_refl _) (by omega) (fun j h2 h3 => by omega)
theorem w64p (x : Int) (h0 : 0 ≤ x) (h1 : x < 9000000000000000000) : wrap64 (x - 1) = x - 1 := by unfold wrap64; omega
/-- From the last one on: of those that stand ahead of i the first one whose number it is; else what was found. -/
theorem of_l1 (l : List S34) (hn : l.length < 1000000000) (acc : List Int) (i : Nat) (hi : i < l.length) (hacc : acc.length < 17592186044416) : ∀ (m : Nat) (b : Int), m ≤ l.length → (l.getD i z34).f2 ≠ 0 → b = (if (((l.map fun s => s.f1).drop m).findIdx (· == (l.getD i z34).f2)) < l.length - m then ((m + ((l.map fun s => s.f1).drop m).findIdx (· == (l.getD i z34).f2) : Nat) : Int) else -1) →
    ∀ r, Ev (fun k => merkhetref10_Of.l0 k l (acc ++ [firstI (l.map fun s => s.f1) (l.getD i z34).f2]) (wrap64 ((i : Int) + 1))) r → Ev (fun k => merkhetref10_Of.l1 k l acc (i : Int) b ((m : Int) - 1)) r := by
  intro m
  have hz : ∀ j : Nat, rd_T34 l (j : Int) = l.getD j z34 := fun j => by show l.getD _ _ = _; rw [Int.toNat_natCast]
  induction m with
  | zero =>
    intro b hm h2 hb r hr
    refine Ev.step_ (fun k => ?_) hr
    rw [merkhetref10_Of.l1, if_neg (by omega), if_pos hacc, hb]
    simp only [List.drop_zero, Nat.sub_zero, Nat.zero_add]
    unfold firstI
    simp only [List.length_map]
  | succ m ih =>
    intro b hm h2 hb r hr
    have hml : m < l.length := by omega
    have e : (((m + 1 : Nat) : Int) - 1) = (m : Int) := by omega
    rw [e]
    have hd : (l.map fun s => s.f1).drop m = (l.getD m z34).f1 :: (l.map fun s => s.f1).drop (m + 1) := by
      rw [List.drop_eq_getElem_cons (by simpa using hml), List.getD_eq_getElem?_getD, List.getElem?_eq_getElem hml]; simp
    by_cases c : (l.getD m z34).f1 = (l.getD i z34).f2
    · refine Ev.step_ (fun k => ?_) (ih (m : Int) (by omega) h2 (by rw [hd, List.findIdx_cons, show ((l.getD m z34).f1 == (l.getD i z34).f2) = true from beq_iff_eq.mpr c]; simp only [cond_true]; rw [if_pos (by omega)]; rfl) r hr)
      rw [merkhetref10_Of.l1, if_pos (by omega), if_pos (by omega), if_pos (by omega), hz, if_neg h2, if_pos (by omega), if_pos (by omega), hz, if_pos c]
      rw [w64p _ (by omega) (by omega)]
    · refine Ev.step_ (fun k => ?_) (ih b (by omega) h2 (by
        rw [hb, hd, List.findIdx_cons, show ((l.getD m z34).f1 == (l.getD i z34).f2) = false from beq_eq_false_iff_ne.mpr c]
        simp only [cond_false]
        by_cases c2 : ((l.map fun s => s.f1).drop (m + 1)).findIdx (· == (l.getD i z34).f2) < l.length - (m + 1)
        · rw [if_pos c2, if_pos (by omega)]; omega
        · rw [if_neg c2, if_neg (by omega)]) r hr)
      rw [merkhetref10_Of.l1, if_pos (by omega), if_pos (by omega), if_pos (by omega), hz, if_neg h2, if_pos (by omega), if_pos (by omega), hz, if_neg c]
      rw [w64p _ (by omega) (by omega)]
theorem of_l1z (l : List S34) (hn : l.length < 1000000000) (acc : List Int) (i : Nat) (hi : i < l.length) (hacc : acc.length < 17592186044416) (h2 : (l.getD i z34).f2 = 0) : ∀ (m : Nat), m ≤ l.length →
    ∀ r, Ev (fun k => merkhetref10_Of.l0 k l (acc ++ [-1]) (wrap64 ((i : Int) + 1))) r → Ev (fun k => merkhetref10_Of.l1 k l acc (i : Int) (-1) ((m : Int) - 1)) r := by
  intro m
  have hz : ∀ j : Nat, rd_T34 l (j : Int) = l.getD j z34 := fun j => by show l.getD _ _ = _; rw [Int.toNat_natCast]
  induction m with
  | zero =>
    intro hm r hr
    refine Ev.step_ (fun k => ?_) hr
    rw [merkhetref10_Of.l1, if_neg (by omega), if_pos hacc]
  | succ m ih =>
    intro hm r hr
    refine Ev.step_ (fun k => ?_) (ih (by omega) r hr)
    rw [show (((m + 1 : Nat) : Int) - 1) = (m : Int) by omega, merkhetref10_Of.l1, if_pos (by omega), if_pos (by omega), if_pos (by omega), hz, if_pos h2]
    rw [w64p _ (by omega) (by omega)]
def parS (l : List S34) : List Int := par0 (l.map fun s => s.f1) (l.map fun s => s.f2)
theorem parS_length (l : List S34) : (parS l).length = l.length := by simp [parS, par0]
theorem parS_ok (l : List S34) : okP (parS l) := par0_ok _ _ (by simp)
theorem parS_take (l : List S34) (i : Nat) (h : i < l.length) : (parS l).take (i + 1) = (parS l).take i ++ [if (l.getD i z34).f2 = 0 then -1 else firstI (l.map fun s => s.f1) (l.getD i z34).f2] := by
  rw [List.take_succ_eq_append_getElem (by rw [parS_length]; exact h)]
  simp [parS, par0, List.getD_eq_getElem?_getD, List.getElem?_eq_getElem h]
theorem of_l0 (l : List S34) (hn : l.length < 1000000000) : ∀ (d i : Nat), l.length - i = d → i ≤ l.length → ∀ r, Ev (fun k => merkhetref10_Of.l2 k l (parS l) [] 0) r → Ev (fun k => merkhetref10_Of.l0 k l ((parS l).take i) (i : Int)) r := by
  intro d
  induction d with
  | zero =>
    intro i hd hi r hr
    refine Ev.step_ (fun k => ?_) hr
    rw [merkhetref10_Of.l0, if_neg (by omega), List.take_of_length_le (by rw [parS_length]; omega)]
  | succ d ih =>
    intro i hd hi r hr
    have hlt : i < l.length := by omega
    have h_ := ih (i + 1) (by omega) (by omega) r hr
    rw [parS_take l i hlt] at h_
    have hw : wrap64 ((l.length : Int) - 1) = (l.length : Int) - 1 := by unfold wrap64; omega
    refine Ev.step_ (f := fun k => merkhetref10_Of.l1 k l ((parS l).take i) (i : Int) (-1) ((l.length : Int) - 1)) (fun k => by rw [merkhetref10_Of.l0, if_pos (by omega), hw]) ?_
    have hacc : ((parS l).take i).length < 17592186044416 := by rw [List.length_take, parS_length]; omega
    by_cases c : (l.getD i z34).f2 = 0
    · rw [if_pos c] at h_
      exact of_l1z l hn _ i hlt hacc c l.length (Nat.le_refl _) r (by rw [w64s i (by omega)]; exact h_)
    · rw [if_neg c] at h_
      exact of_l1 l hn _ i hlt hacc l.length (-1) (Nat.le_refl _) c (by rw [if_neg (by omega)]) r (by rw [w64s i (by omega)]; exact h_)
/-- Is the place the least one of its cycle? One goes round. -/
theorem of_l3f (l : List S34) (p out : List Int) (i : Nat) (hi : i < p.length) (hl : out.length < 17592186044416) (hn : p.length < 1000000000) (a : Int) (r : List Int) (hr : Ev (fun k => merkhetref10_Of.l2 k l p (out ++ [p.getD i 0]) ((i + 1 : Nat) : Int)) r) : Ev (fun k => merkhetref10_Of.l3 k l p out (i : Int) false a) r := by
  refine Ev.step_ (f := fun k => merkhetref10_Of.j4 k l p out (i : Int) false a false) (fun k => by rw [merkhetref10_Of.l3, if_neg (by decide)]) ?_
  refine Ev.step_ (fun k => ?_) hr
  rw [merkhetref10_Of.j4, if_neg (by decide), if_neg (by decide), if_pos (by omega), if_pos (by omega), if_pos hl, rdn, w64s i (by omega)]
theorem of_l3 (l : List S34) {p : List Int} (hp : okP p) (out : List Int) (i : Nat) (hi : i < p.length) (hl : out.length < 17592186044416) (hn : p.length < 1000000000) (hc : cyc p (i : Int)) {m : Nat} (hm : 1 ≤ m) (he : up p m (i : Int) = (i : Int)) (hne : ∀ j, 1 ≤ j → j < m → up p j (i : Int) ≠ (i : Int)) (r : List Int)
    (h1 : isLeast p (i : Int) → Ev (fun k => merkhetref10_Of.l2 k l p (out ++ [-1]) ((i + 1 : Nat) : Int)) r) (h2 : ¬ isLeast p (i : Int) → Ev (fun k => merkhetref10_Of.l2 k l p (out ++ [p.getD i 0]) ((i + 1 : Nat) : Int)) r) :
    ∀ (d j : Nat), m - j = d → j < m → (∀ t, t ≤ j → (i : Int) ≤ up p t (i : Int)) → Ev (fun k => merkhetref10_Of.l3 k l p out (i : Int) true (up p j (i : Int))) r := by
  intro d
  induction d with
  | zero => intro j hd hj; omega
  | succ d ih =>
    intro j hd hj hall
    have h0 := cyc_pos hc j
    have hlt := (okP_up hp j (a := (i : Int)) (by omega) (by omega)).2
    have hnx : rd p (up p j (i : Int)) = up p (j + 1) (i : Int) := by rw [up_succ]; unfold nx rd; rw [if_pos h0]
    by_cases c : up p (j + 1) (i : Int) = (i : Int)
    · have hjm : j + 1 = m := by
        rcases Nat.lt_or_ge (j + 1) m with h | h
        · exact absurd c (hne _ (by omega) h)
        · omega
      have hleast : isLeast p (i : Int) := ⟨hc, fun t => by
        rw [up_mod he]
        have := Nat.mod_lt t hm
        exact hall _ (by omega)⟩
      refine Ev.step_ (f := fun k => merkhetref10_Of.j4 k l p out (i : Int) true (up p j (i : Int)) false) (fun k => ?_) ?_
      · rw [merkhetref10_Of.l3, if_pos rfl, if_pos h0, if_pos hlt, hnx, c]; simp
      · refine Ev.step_ (fun k => ?_) (h1 hleast)
        rw [merkhetref10_Of.j4, if_neg (by decide), if_pos rfl, if_pos hl, w64s i (by omega)]
    · refine Ev.step_ (f := fun k => merkhetref10_Of.j4 k l p out (i : Int) true (up p j (i : Int)) true) (fun k => ?_) ?_
      · rw [merkhetref10_Of.l3, if_pos rfl, if_pos h0, if_pos hlt, hnx]; rw [show (up p (j + 1) (i : Int) != (i : Int)) = true by simpa using c]
      · by_cases c2 : up p (j + 1) (i : Int) < (i : Int)
        · refine Ev.step_ (fun k => ?_) (of_l3f l p out i hi hl hn (up p (j + 1) (i : Int)) r (h2 (fun h => by have := h.2 (j + 1); omega)))
          rw [merkhetref10_Of.j4, if_pos rfl, if_pos h0, if_pos hlt, hnx, if_pos c2]
        · have hj1 : j + 1 < m := by
            rcases Nat.lt_or_ge (j + 1) m with h | h
            · exact h
            · exact absurd (by rw [show j + 1 = m by omega]; exact he) c
          refine Ev.step_ (fun k => ?_) (ih (j + 1) (by omega) hj1 (fun t ht => by
            rcases Nat.lt_or_ge t (j + 1) with h | h
            · exact hall t (by omega)
            · obtain rfl : t = j + 1 := by omega
              omega))
          rw [merkhetref10_Of.j4, if_pos rfl, if_pos h0, if_pos hlt, hnx, if_neg c2]
theorem cut_take (p : List Int) (i : Nat) (h : i < p.length) : (cut p).take (i + 1) = (cut p).take i ++ [(cut p).getD i 0] := by
  have h' : i < (cut p).length := by rw [cut_length]; exact h
  rw [List.take_succ_eq_append_getElem h', List.getD_eq_getElem?_getD, List.getElem?_eq_getElem h']; rfl
open Classical in
theorem of_l2 (l : List S34) {p : List Int} (hp : okP p) (hpl : p.length = l.length) (hn : p.length < 1000000000) : ∀ (d i : Nat), l.length - i = d → i ≤ l.length → Ev (fun k => merkhetref10_Of.l2 k l p ((cut p).take i) (i : Int)) (cut p) := by
  intro d
  induction d with
  | zero =>
    intro i hd hi
    rw [List.take_of_length_le (by rw [cut_length]; omega)]
    exact Ev.step_ (f := fun _ => some (cut p)) (fun k => by rw [merkhetref10_Of.l2, if_neg (by omega)]) (Ev.now _)
  | succ d ih =>
    intro i hd hi
    have hlt : i < p.length := by omega
    have h_ := ih (i + 1) (by omega) (by omega)
    have hl : ((cut p).take i).length < 17592186044416 := by rw [List.length_take, cut_length]; omega
    rw [cut_take p i hlt, cut_at p i hlt] at h_
    refine Ev.step_ (f := fun k => (merkhetref10_on.f k p (i : Int)).bind fun t => merkhetref10_Of.l3 k l p ((cut p).take i) (i : Int) t (i : Int)) (fun k => by rw [merkhetref10_Of.l2, if_pos (by omega)]) ?_
    refine Ev.bind (on_ev hp hn (i : Int) (by omega) (by omega)) ?_
    by_cases hc : cyc p (i : Int)
    · rw [decide_eq_true hc]
      obtain ⟨m, hm, he, hne⟩ := cyc_period hc
      exact of_l3 l hp _ i hlt hl hn hc hm he hne _ (fun h => by rw [if_pos h] at h_; exact h_) (fun h => by rw [if_neg h] at h_; exact h_) m 0 rfl (by omega) (fun t ht => by have h0 : t = 0 := (by omega); rw [h0]; exact Int.le_refl _)
    · rw [decide_eq_false hc]
      rw [if_neg (fun h => hc h.1)] at h_
      exact of_l3f l p _ i hlt hl hn _ _ h_
theorem refOf_ev (l : List S34) (hn : l.length < 1000000000) : Ev (fun k => merkhetref10_Of.f k l) (cut (parS l)) := by
  have h_ := of_l2 l (parS_ok l) (parS_length l) (by rw [parS_length]; exact hn) l.length 0 rfl (Nat.zero_le _)
  exact of_l0 l hn l.length 0 rfl (Nat.zero_le _) _ h_
end Go.Proofs.Ythlekphkibeflaa.E
