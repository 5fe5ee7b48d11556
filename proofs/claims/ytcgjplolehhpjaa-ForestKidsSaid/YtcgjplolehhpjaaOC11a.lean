/- Layer 11, the program's and the document's: kids, rows, depths. -/
import Derived.Test.YtcgjplolehhpjaaOx2
import Derived.Test.YtcgjplolehhpjaaOx3
import Derived.Test.YtcgjplolehhpjaaOx4
import Derived.Test.YtcgjplolehhpjaaOC10e
import Derived.Test.YtcgjplolehhpjaaOC10g
import Derived.Test.YtcgjplolehhpjaaH22
set_option linter.unusedVariables false
namespace Go.Proofs.Ytcgjplolehhpjaa.O
open Go.RowKit Go.Proofs.Ytcgjplolehhpjaa.H Go.Proofs.YtcgjplolehhpjaaW.PrintWords Go.Proofs.YtcgjplolehhpjaaW.PrintLast Go.Proofs.YtcgjplolehhpjaaW.PrintMore
theorem w64k (i : Nat) (h : i < 9000000000000000000) : wrap64 ((i : Int) + 1) = ((i + 1 : Nat) : Int) := by unfold wrap64; omega
theorem rdk (l : List Int) (i : Nat) : rd l (i : Int) = l.getD i 0 := by unfold rd; rw [Int.toNat_natCast]
theorem ev_eqk {α : Type} {g : Nat → Option α} {r r' : α} (h : Ev g r) (e : r = r') : Ev g r' := e ▸ h
theorem law11_fixed_ev : Ev (fun k => merkhetlaw11_fixed.f k) true := Ev.of (fun k => merkhetlaw11_fixed.mono k) (k := 12) (by decide +kernel)
def forestP (p : List Int) : Prop := okP p ∧ ∀ a, a < (p.length : Int) → ¬ cyc p a
def rowOf (p : List Int) : List It3 := (rowK p (p.length + 1) (-1) 0).getD []
theorem rowOf_eq {p : List Int} (h : forestP p) (hl : p.length ≤ 1000000) : rowK p (p.length + 1) (-1) 0 = some (rowOf p) := by
  obtain ⟨r, hr⟩ := row_some h.1 h.2 hl
  unfold rowOf
  rw [hr]; rfl
open Classical in
noncomputable def itemsP (p : List Int) : List S34 := if forestP p then (rowOf p).map forest_Row_it else []
open Classical in
theorem forestRow_ev (p : List Int) (hl : p.length ≤ 1000000) : Ev (fun k => forest_Row.f k p) (itemsP p) := by
  unfold forest_Row.f itemsP
  refine Ev.bind (parentRight_ev p hl) ?_
  by_cases h : forestP p
  · rw [if_pos h]
    refine Ev.congr (fun k => by rw [decide_eq_true (show okP p ∧ ∀ a, a < (p.length : Int) → ¬ cyc p a from h), if_pos rfl, if_pos ⟨hl, okB_iff.2 h.1⟩]) ?_
    refine Ev.bind (Ev.of (fun k => rowK_mono p k (-1) 0) (rowOf_eq h hl)) ?_
    exact Ev.congr (f := fun _ => some ((rowOf p).map forest_Row_it)) (fun k => by rw [if_pos (by rw [row_length h.1 h.2 (rowOf_eq h hl)]; exact hl)]) (Ev.now _)
  · rw [if_neg h]
    exact Ev.congr (f := fun _ => some ([] : List S34)) (fun k => by rw [decide_eq_false (show ¬ (okP p ∧ ∀ a, a < (p.length : Int) → ¬ cyc p a) from h), if_neg Bool.false_ne_true]) (Ev.now _)
theorem refKids_l0 (p : List Int) (a : Int) (hl : p.length ≤ 1000000) : ∀ (d i : Nat), p.length - i = d → i ≤ p.length → Ev (fun k => merkhetref11_Kids.l0 k p a (kidsI p i a) (i : Int)) (kidsI p p.length a) := by
  intro d
  induction d with
  | zero =>
    intro i hd hi
    obtain rfl : i = p.length := by omega
    exact Ev.step (f := fun _ => some _) (fun k => by rw [merkhetref11_Kids.l0, if_neg (by omega)]) (Ev.now _)
  | succ d ih =>
    intro i hd hi
    have hk := kidsI_length_le p i a
    have hs := kidsI_succ p i a
    have h_ := ih (i + 1) (by omega) (by omega)
    by_cases c : p.getD i 0 = a
    · rw [if_pos c] at hs
      rw [hs] at h_
      exact Ev.step (fun k => by rw [merkhetref11_Kids.l0, if_pos (by omega), if_pos (by omega), rdk, if_pos c, if_pos (by omega), w64k i (by omega)]) h_
    · rw [if_neg c] at hs
      rw [hs] at h_
      exact Ev.step (fun k => by rw [merkhetref11_Kids.l0, if_pos (by omega), if_pos (by omega), rdk, if_neg c, w64k i (by omega)]) h_
theorem refKids_ev (p : List Int) (a : Int) (hl : p.length ≤ 1000000) : Ev (fun k => merkhetref11_Kids.f k p a) (kidsI p p.length a) := by
  unfold merkhetref11_Kids.f
  exact refKids_l0 p a hl p.length 0 rfl (Nat.zero_le _)
theorem rdI (l : List S34) (i : Nat) : rd_T34 l (i : Int) = l.getD i z34 := by show l.getD _ _ = _; rw [Int.toNat_natCast]
def itA (d : Nat) (a : Int) (i : Nat) : S34 := ⟨(i : Int), (d : Int), a⟩
/-- The kids of a place, as the document lays them. -/
theorem refRow_l2 (p : List Int) (hl : p.length ≤ 60) (out left : List S34) (a : Int) (d : Nat) (x3 : Int) (hd : d ≤ 1000000) (hlen : left.length ≤ 1000000) (h1 : 1 ≤ left.length) (r : List S34) (kids : List Nat) (hkl : kids.length ≤ 60)
    (hr : Ev (fun k => merkhetref11_Row.l1 k p out (kids.map (itA (d + 1) a) ++ left.drop 1)) r) : ∀ (m i : Nat), kids.length - i = m → i ≤ kids.length → Ev (fun k => merkhetref11_Row.l2 k p out left ((kids.take i).map (itA (d + 1) a)) (kids.map fun j : Nat => (j : Int)) (i : Int) a (d : Int) x3) r := by
  intro m
  induction m with
  | zero =>
    intro i hm hi
    obtain rfl : i = kids.length := by omega
    refine Ev.step (fun k => ?_) hr
    rw [merkhetref11_Row.l2, if_neg (by rw [List.length_map]; omega), if_pos (by omega), Option.bind_some, if_pos (by rw [List.length_map, List.length_take, List.length_drop]; omega), List.take_length]
  | succ m ih =>
    intro i hm hi
    have hlt : i < kids.length := by omega
    refine Ev.step (fun k => ?_) (ih (i + 1) (by omega) (by omega))
    have e1 : rd (kids.map fun j : Nat => (j : Int)) (i : Int) = ((kids[i] : Nat) : Int) := by
      rw [rdk, List.getD_eq_getElem?_getD, List.getElem?_map, List.getElem?_eq_getElem hlt]; rfl
    rw [merkhetref11_Row.l2, if_pos (by rw [List.length_map]; omega), if_pos (by omega), if_pos (by rw [List.length_map, List.length_take]; omega), e1, w64k d (by omega), w64k i (by omega), List.take_succ_eq_append_getElem hlt, List.map_append]
    rfl
theorem refRow_l1 (p : List Int) (hl : p.length ≤ 60) (r : List S34) : ∀ (k : Nat) (a : Int) (d : Nat) (l : List Nat) (row : List It3) (out rest : List S34), d ≤ 1000000 → rowsK (rowK p k) a d l = some row → out.length + row.length ≤ 1000000 → l.length + rest.length + k * 100 ≤ 1000000 →
    Ev (fun q => merkhetref11_Row.l1 q p (out ++ row.map forest_Row_it) rest) r → Ev (fun q => merkhetref11_Row.l1 q p out (l.map (itA d a) ++ rest)) r := by
  intro k
  induction k with
  | zero =>
    intro a d l row out rest hd h ho hb hr
    cases l with
    | nil => rw [rowsK] at h; cases h; simpa using hr
    | cons i l => rw [rowsK] at h; simp [rowK] at h
  | succ k ihk =>
    intro a d l
    induction l with
    | nil => intro row out rest hd h ho hb hr; rw [rowsK] at h; cases h; simpa using hr
    | cons i l ihl =>
      intro row out rest hd h ho hb hr
      rw [rowsK] at h
      obtain ⟨X, hX, h⟩ := Option.bind_eq_some_iff.1 h
      obtain ⟨Y, hY, h⟩ := Option.bind_eq_some_iff.1 h
      obtain rfl := Option.some.inj h
      by_cases hd1 : d + 1 ≤ 1000000
      case neg => rw [rowK, if_neg hd1] at hX; cases hX
      have hX2 := hX
      rw [rowK, if_pos hd1] at hX2
      simp only [List.length_cons, List.length_append] at ho hb
      have hkl : (kidsN p (i : Int)).length ≤ 60 := by
        have := kidsI_length_le p p.length (i : Int)
        rw [kidsI_all, List.length_map] at this
        omega
      have e0 : rd_T34 ((i :: l).map (itA d a) ++ rest) 0 = itA d a i := rfl
      have hlen : ((i :: l).map (itA d a) ++ rest).length = l.length + 1 + rest.length := by simp; omega
      refine Ev.step (f := fun q => (merkhetref11_Kids.f q p (i : Int)).bind fun t => merkhetref11_Row.l2 q p (out ++ [itA d a i]) ((i :: l).map (itA d a) ++ rest) [] t 0 (i : Int) (d : Int) a) (fun q => ?_) ?_
      · rw [merkhetref11_Row.l1, if_pos (by rw [hlen]; omega), if_pos (by rw [hlen]; omega), if_pos (by omega), e0]
        rfl
      refine Ev.bind (refKids_ev p (i : Int) (by omega)) ?_
      rw [kidsI_all]
      refine refRow_l2 p hl (out ++ [itA d a i]) ((i :: l).map (itA d a) ++ rest) (i : Int) d a (by omega) (by rw [hlen]; omega) (by rw [hlen]; omega) r (kidsN p (i : Int)) hkl ?_ (kidsN p (i : Int)).length 0 rfl (Nat.zero_le _)
      refine ihk (i : Int) (d + 1) (kidsN p (i : Int)) X (out ++ [itA d a i]) (((i :: l).map (itA d a) ++ rest).drop 1) hd1 hX2 (by rw [List.length_append, List.length_singleton]; omega) (by rw [List.length_drop, hlen]; omega) ?_
      rw [show ((i :: l).map (itA d a) ++ rest).drop 1 = l.map (itA d a) ++ rest from rfl]
      refine ihl Y _ rest hd hY (by simp only [List.length_append, List.length_singleton, List.length_map]; omega) (by omega) ?_
      rw [show out ++ [itA d a i] ++ X.map forest_Row_it ++ Y.map forest_Row_it = out ++ ((((i : Int), (d : Int), a) :: (X ++ Y)).map forest_Row_it) by
        rw [List.map_cons, List.map_append]
        show out ++ [itA d a i] ++ _ ++ _ = out ++ (itA d a i :: (_ ++ _))
        rw [List.append_assoc, List.append_assoc]; rfl]
      exact hr
theorem refRow_l0 (p : List Int) (hl : p.length ≤ 60) (r : List S34) (roots : List Nat) (hkl : roots.length ≤ 60) (hr : Ev (fun k => merkhetref11_Row.l1 k p [] (roots.map (itA 0 (-1)))) r) : ∀ (m i : Nat), roots.length - i = m → i ≤ roots.length → Ev (fun k => merkhetref11_Row.l0 k p [] ((roots.take i).map (itA 0 (-1))) (roots.map fun j : Nat => (j : Int)) (i : Int)) r := by
  intro m
  induction m with
  | zero =>
    intro i hm hi
    obtain rfl : i = roots.length := by omega
    exact Ev.step (fun k => by rw [merkhetref11_Row.l0, if_neg (by rw [List.length_map]; omega), List.take_length]) hr
  | succ m ih =>
    intro i hm hi
    have hlt : i < roots.length := by omega
    refine Ev.step (fun k => ?_) (ih (i + 1) (by omega) (by omega))
    have e1 : rd (roots.map fun j : Nat => (j : Int)) (i : Int) = ((roots[i] : Nat) : Int) := by
      rw [rdk, List.getD_eq_getElem?_getD, List.getElem?_map, List.getElem?_eq_getElem hlt]; rfl
    rw [merkhetref11_Row.l0, if_pos (by rw [List.length_map]; omega), if_pos (by omega), if_pos (by rw [List.length_map, List.length_take]; omega), e1, w64k i (by omega), List.take_succ_eq_append_getElem hlt, List.map_append]
    rfl
open Classical in
theorem refRow_ev (p : List Int) (hl : p.length ≤ 60) : Ev (fun k => merkhetref11_Row.f k p) (itemsP p) := by
  unfold merkhetref11_Row.f itemsP
  refine Ev.congr (fun k => by rw [Option.bind_some]) ?_
  refine Ev.bind (refRight_ev p (by omega)) ?_
  by_cases h : forestP p
  · rw [if_pos h]
    refine Ev.congr (fun k => by rw [decide_eq_true (show okP p ∧ ∀ a, a < (p.length : Int) → ¬ cyc p a from h), if_pos rfl]) ?_
    refine Ev.bind (refKids_ev p (-1) (by omega)) ?_
    have hkl : (kidsN p (-1)).length ≤ 60 := by
      have := kidsI_length_le p p.length (-1)
      rw [kidsI_all, List.length_map] at this
      omega
    rw [kidsI_all]
    have hrow := rowOf_eq h (by omega)
    have hrl := row_length h.1 h.2 hrow
    rw [rowK, if_pos (by omega)] at hrow
    refine refRow_l0 p hl _ (kidsN p (-1)) hkl ?_ (kidsN p (-1)).length 0 rfl (Nat.zero_le _)
    have h_ := refRow_l1 p hl ((rowOf p).map forest_Row_it) p.length (-1) 0 (kidsN p (-1)) (rowOf p) [] [] (by omega) hrow (by rw [hrl]; simp; omega) (by simp; omega) (by
      rw [List.nil_append]
      exact Ev.step (f := fun _ => some _) (fun k => by rw [merkhetref11_Row.l1, if_neg (by simp)]) (Ev.now _))
    rw [List.append_nil] at h_
    exact h_
  · rw [if_neg h]
    exact Ev.congr (f := fun _ => some ([] : List S34)) (fun k => by rw [decide_eq_false (show ¬ (okP p ∧ ∀ a, a < (p.length : Int) → ¬ cyc p a) from h), if_neg Bool.false_ne_true]) (Ev.now _)
open Classical in
theorem itemsP_length (p : List Int) (hl : p.length ≤ 1000000) : (itemsP p).length ≤ p.length := by
  unfold itemsP
  split
  · rename_i h
    rw [List.length_map, row_length h.1 h.2 (rowOf_eq h hl)]; exact Nat.le_refl _
  · simp
end Go.Proofs.Ytcgjplolehhpjaa.O
