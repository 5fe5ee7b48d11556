/- Layer 12's pairs: the program's, the document's; their comparison. -/
import Derived.Test.YtcgjplolehhpjaaRx4
import Derived.Test.YtcgjplolehhpjaaRx8
import Derived.Test.YtcgjplolehhpjaaRC12a
import Derived.Test.YtcgjplolehhpjaaH17
set_option linter.unusedVariables false
namespace Go.Proofs.Ytcgjplolehhpjaa.R
open Go.RowKit Go.Proofs.Ytcgjplolehhpjaa.H Go.Proofs.YtcgjplolehhpjaaW.PrintWords Go.Proofs.YtcgjplolehhpjaaW.PrintLast Go.Proofs.YtcgjplolehhpjaaW.PrintMore
noncomputable def goS (l : List S37) : List Int → Int → List S46 → List S46
  | [], _, out => out
  | p :: r, i, out => goS l r (i + 1) (if rpc_Of_pair (findS l p) (findS l i) = true then out ++ [⟨p, i⟩] else out)
noncomputable def pairsS (l : List S37) (ps : List Int) : List S46 := if ps.length = l.length ∧ okB ps = true then goS l ps 0 [] else []
theorem goS_length (l : List S37) : ∀ (ps : List Int) (i : Int) (out : List S46), (goS l ps i out).length ≤ out.length + ps.length
  | [], _, out => by simp [goS]
  | p :: r, i, out => by
    have h := goS_length l r (i + 1) (if rpc_Of_pair (findS l p) (findS l i) = true then out ++ [⟨p, i⟩] else out)
    unfold goS
    split at h <;> split <;> simp_all <;> omega
theorem pairsS_length (l : List S37) (ps : List Int) : (pairsS l ps).length ≤ ps.length := by
  unfold pairsS
  split
  · have := goS_length l ps 0 []; simpa using this
  · simp
theorem go_ev {l : List S37} (f : fineL l) : ∀ (ps : List Int) (i : Int) (out : List S46), Ev (fun k => rpc_Of_go k l ps i out) (goS l ps i out)
  | [], _, _ => Ev.now _
  | p :: r, i, out => by
    unfold rpc_Of_go goS
    exact Ev.bind (find_ev f i) (Ev.bind (find_ev f p) (go_ev f r _ _))
theorem rpcOf_ev {l : List S37} (f : fineL l) (ps : List Int) : Ev (fun k => rpc_Of.f k l ps) (pairsS l ps) := by
  unfold rpc_Of.f pairsS
  by_cases c1 : ps.length = l.length
  · have hl := f.1
    by_cases c2 : okB ps = true
    · rw [if_pos ⟨c1, c2⟩]
      exact Ev.congr (fun k => by rw [if_pos c1, if_pos (by omega), if_pos c2]) (go_ev f ps 0 [])
    · rw [if_neg (fun h => c2 h.2)]
      exact Ev.congr (f := fun _ => some []) (fun k => by rw [if_pos c1, if_pos (by omega), if_neg c2]) (Ev.now _)
  · rw [if_neg (fun h => c1 h.1)]
    exact Ev.congr (f := fun _ => some []) (fun k => by rw [if_neg c1]) (Ev.now _)
/-- Are they a pair? -/
def isPair (l : List S37) (p i : Int) : Prop := 0 ≤ p ∧ (rd_T37 l i).f3 = 2 ∧ (rd_T37 l p).f3 = 1 ∧ mayS (rd_T37 l i) = true ∧ mayS (rd_T37 l p) = true
theorem pair_iff (l : List S37) (p i : Int) (hp : p < (l.length : Int)) (h0 : 0 ≤ i) (h1 : i < (l.length : Int)) : rpc_Of_pair (findS l p) (findS l i) = true ↔ isPair l p i := by
  unfold rpc_Of_pair findS isPair
  by_cases c1 : 0 ≤ i ∧ i < (l.length : Int) ∧ mayS (rd_T37 l i) = true
  · rw [if_pos c1]
    by_cases c2 : 0 ≤ p ∧ p < (l.length : Int) ∧ mayS (rd_T37 l p) = true
    · rw [if_pos c2]
      simp only [Bool.true_and, Bool.and_eq_true, beq_iff_eq]
      exact ⟨fun h => ⟨c2.1, h.1, h.2, c1.2.2, c2.2.2⟩, fun h => ⟨h.2.1, h.2.2.1⟩⟩
    · rw [if_neg c2]
      simp only [Bool.false_and, Bool.and_false, Bool.false_eq_true, false_iff]
      exact fun h => c2 ⟨h.1, hp, h.2.2.2.2⟩
  · rw [if_neg c1]
    simp only [Bool.false_and, Bool.false_eq_true, false_iff]
    exact fun h => c1 ⟨h0, h1, h.2.2.2.1⟩
theorem ref12_l1 {l : List S37} (f : fineL l) {ps : List Int} (hl : ps.length = l.length) (ok : okP ps) : ∀ (d i : Nat), l.length - i = d → i ≤ l.length → ∀ out : List S46, out.length ≤ i → Ev (fun k => merkhetref12_Of.l1 k l ps out (i : Int)) (goS l (ps.drop i) (i : Int) out) := by
  have hn := f.1
  intro d
  induction d with
  | zero =>
    intro i hd hi out ho
    rw [List.drop_of_length_le (by omega)]
    exact Ev.step_ (f := fun _ => some out) (fun k => by rw [merkhetref12_Of.l1, if_neg (by omega)]) (Ev.now _)
  | succ d ih =>
    intro i hd hi out ho
    have hlt : i < ps.length := by omega
    have e1 : ps.drop i = ps.getD i 0 :: ps.drop (i + 1) := by rw [List.drop_eq_getElem_cons hlt, List.getD_eq_getElem?_getD, List.getElem?_eq_getElem hlt]; rfl
    have hr : -1 ≤ ps.getD i 0 ∧ ps.getD i 0 < (l.length : Int) := by
      have := ok (ps.getD i 0) (by rw [List.getD_eq_getElem?_getD, List.getElem?_eq_getElem hlt]; exact List.getElem_mem _)
      rw [← hl]; exact this
    rw [e1, goS]
    have hno : ¬ isPair l (ps.getD i 0) (i : Int) → Ev (fun k => merkhetref12_Of.l1 k l ps out ((i + 1 : Nat) : Int)) (goS l (ps.drop (i + 1)) ((i : Int) + 1) (if rpc_Of_pair (findS l (ps.getD i 0)) (findS l (i : Int)) = true then out ++ [⟨ps.getD i 0, i⟩] else out)) := fun h => by
      rw [if_neg (fun h' => h ((pair_iff l _ _ hr.2 (by omega) (by omega)).1 h'))]
      exact ih (i + 1) (by omega) (by omega) out (by omega)
    have hyes : isPair l (ps.getD i 0) (i : Int) → Ev (fun k => merkhetref12_Of.l1 k l ps (out ++ [⟨ps.getD i 0, i⟩]) ((i + 1 : Nat) : Int)) (goS l (ps.drop (i + 1)) ((i : Int) + 1) (if rpc_Of_pair (findS l (ps.getD i 0)) (findS l (i : Int)) = true then out ++ [⟨ps.getD i 0, i⟩] else out)) := fun h => by
      rw [if_pos ((pair_iff l _ _ hr.2 (by omega) (by omega)).2 h)]
      exact ih (i + 1) (by omega) (by omega) _ (by simp; omega)
    generalize goS l (ps.drop (i + 1)) ((i : Int) + 1) (if rpc_Of_pair (findS l (ps.getD i 0)) (findS l (i : Int)) = true then out ++ [⟨ps.getD i 0, i⟩] else out) = R at hno hyes ⊢
    by_cases c1 : ps.getD i 0 ≥ 0
    case neg =>
      refine Ev.step_ (fun k => ?_) (hno (fun h => c1 h.1))
      rw [merkhetref12_Of.l1, if_pos (by omega), if_pos (by omega), if_pos (by omega), rdn, if_neg c1, w64s i (by omega)]
    by_cases c2 : (rd_T37 l (i : Int)).f3 = 2
    case neg =>
      refine Ev.step_ (fun k => ?_) (hno (fun h => c2 h.2.1))
      rw [merkhetref12_Of.l1, if_pos (by omega), if_pos (by omega), if_pos (by omega), rdn, if_pos c1, if_neg c2, w64s i (by omega)]
    by_cases c3 : (rd_T37 l (ps.getD i 0)).f3 = 1
    case neg =>
      refine Ev.step_ (fun k => ?_) (hno (fun h => c3 h.2.2.1))
      rw [merkhetref12_Of.l1, if_pos (by omega), if_pos (by omega), if_pos (by omega), rdn, if_pos c1, if_pos c2, if_pos c1, if_pos hr.2, if_neg c3, w64s i (by omega)]
    have f1 := f.2 _ (rdS_mem (l := l) (a := (i : Int)) (by omega) (by omega))
    have f2 := f.2 _ (rdS_mem (l := l) (a := ps.getD i 0) c1 hr.2)
    refine Ev.step_ (fun k => by rw [merkhetref12_Of.l1, if_pos (by omega), if_pos (by omega), if_pos (by omega), rdn, if_pos c1, if_pos c2, if_pos c1, if_pos hr.2, if_pos c3, w64s i (by omega)]) ?_
    refine Ev.bind (refmay_ev f1) ?_
    by_cases c4 : mayS (rd_T37 l (i : Int)) = true
    case neg =>
      exact Ev.congr (fun k => by rw [if_neg c4]) (hno (fun h => c4 h.2.2.2.1))
    refine Ev.congr (fun k => by rw [if_pos c4]) ?_
    refine Ev.bind (refmay_ev f2) ?_
    by_cases c5 : mayS (rd_T37 l (ps.getD i 0)) = true
    case neg =>
      exact Ev.congr (fun k => by rw [if_neg c5]) (hno (fun h => c5 h.2.2.2.2))
    exact Ev.congr (fun k => by rw [if_pos c5, if_pos (by omega)]) (hyes ⟨c1, c2, c3, c4, c5⟩)
theorem ref12_l0 {l : List S37} (f : fineL l) {ps : List Int} (hl : ps.length = l.length) : ∀ (d i : Nat), l.length - i = d → i ≤ l.length → (∀ j, j < i → -1 ≤ ps.getD j 0 ∧ ps.getD j 0 < (ps.length : Int)) → Ev (fun k => merkhetref12_Of.l0 k l ps [] (i : Int)) (if okB ps = true then goS l ps 0 [] else []) := by
  have hn := f.1
  intro d
  induction d with
  | zero =>
    intro i hd hi hall
    have hok := okB_true (p := ps) (fun j hj => hall j (by omega))
    rw [if_pos hok]
    exact Ev.step_ (f := fun k => merkhetref12_Of.l1 k l ps [] ((0 : Nat) : Int)) (fun k => by rw [merkhetref12_Of.l0, if_neg (by omega)]; rfl) (ref12_l1 f hl (okB_iff.1 hok) l.length 0 rfl (Nat.zero_le _) [] (Nat.le_refl _))
  | succ d ih =>
    intro i hd hi hall
    by_cases c1 : ps.getD i 0 < -1
    · rw [if_neg (by rw [okB_false (p := ps) (i := i) (by omega) (by omega)]; exact Bool.false_ne_true)]
      exact Ev.step_ (f := fun _ => some []) (fun k => by rw [merkhetref12_Of.l0, if_pos (by omega), if_pos (by omega), if_pos (by omega), rdn, if_pos c1]) (Ev.now _)
    · by_cases c2 : ps.getD i 0 ≥ (l.length : Int)
      · rw [if_neg (by rw [okB_false (p := ps) (i := i) (by omega) (by omega)]; exact Bool.false_ne_true)]
        exact Ev.step_ (f := fun _ => some []) (fun k => by rw [merkhetref12_Of.l0, if_pos (by omega), if_pos (by omega), if_pos (by omega), rdn, if_neg c1, if_pos c2]) (Ev.now _)
      · refine Ev.step_ (fun k => ?_) (ih (i + 1) (by omega) (by omega) (fun j hj => by
          rcases Nat.lt_or_ge j i with h | h
          · exact hall j h
          · obtain rfl : j = i := by omega
            omega))
        rw [merkhetref12_Of.l0, if_pos (by omega), if_pos (by omega), if_pos (by omega), rdn, if_neg c1, if_neg c2, w64s i (by omega)]
theorem ref12Of_ev {l : List S37} (f : fineL l) (ps : List Int) : Ev (fun k => merkhetref12_Of.f k l ps) (pairsS l ps) := by
  unfold merkhetref12_Of.f pairsS
  by_cases c1 : ps.length = l.length
  · have h := ref12_l0 f c1 l.length 0 rfl (Nat.zero_le _) (fun j hj => absurd hj (Nat.not_lt_zero _))
    refine Ev.congr (f := fun k => merkhetref12_Of.l0 k l ps [] ((0 : Nat) : Int)) (fun k => by show (if (l.length : Int) = (ps.length : Int) then _ else _) = _; rw [if_pos (by omega)]; rfl) ?_
    simpa [c1] using h
  · rw [if_neg (fun h => c1 h.1)]
    exact Ev.congr (f := fun _ => some []) (fun k => by show (if (l.length : Int) = (ps.length : Int) then _ else _) = _; rw [if_neg (by omega)]) (Ev.now _)
theorem same12_l0 (a : List S46) (hn : a.length < 9000000000000000000) : ∀ (d i : Nat), a.length - i = d → i ≤ a.length → Ev (fun k => merkhetref12_Same.l0 k a a (i : Int)) true := by
  intro d
  induction d with
  | zero =>
    intro i hd hi
    exact Ev.step_ (f := fun _ => some true) (fun k => by rw [merkhetref12_Same.l0, if_neg (by omega)]) (Ev.now _)
  | succ d ih =>
    intro i hd hi
    refine Ev.step_ (fun k => ?_) (ih (i + 1) (by omega) (by omega))
    rw [merkhetref12_Same.l0, if_pos (by omega), if_pos (by omega), if_pos (by omega), if_neg (by simp), w64s i (by omega)]
theorem same12_ev (a : List S46) (hn : a.length < 9000000000000000000) : Ev (fun k => merkhetref12_Same.f k a a) true := by
  unfold merkhetref12_Same.f
  exact Ev.congr (f := fun k => merkhetref12_Same.l0 k a a ((0 : Nat) : Int)) (fun k => by rw [if_pos rfl]; rfl) (same12_l0 a hn a.length 0 rfl (Nat.zero_le _))
end Go.Proofs.Ytcgjplolehhpjaa.R
