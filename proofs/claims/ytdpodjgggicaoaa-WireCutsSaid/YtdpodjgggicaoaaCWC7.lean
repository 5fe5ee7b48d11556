/- Layer 4's Put, the program's: it is the plain one of H7. -/
import Derived.Test.YtdpodjgggicaoaaH7
import Derived.Test.YtdpodjgggicaoaaCWC7k
import Derived.Test.YtdpodjgggicaoaaCWC5
import Derived.Test.YtdpodjgggicaoaaCWC6
import Derived.Test.YtdpodjgggicaoaaCWx4
set_option linter.unusedVariables false
set_option linter.unusedSimpArgs false
namespace Go.Proofs.Ytdpodjgggicaoaa.CW
open Go.RowKit Go.Proofs.YtdpodjgggicaoaaW.PrintWords Go.Proofs.YtdpodjgggicaoaaW.PrintLast Go.Proofs.YtdpodjgggicaoaaW.PrintMore Go.Proofs.Ytdpodjgggicaoaa.H

theorem u64n_wu (x : Int) : IntKind.u64.wrap x = ((u64n x : Nat) : Int) := by rw [wu64]; unfold u64n; omega
theorem wire_put_ev (b : List Nat) (p : PS) (g : p.good) (hb : b.length < 35184372088832) : Ev (fun k => wire_put.f k (rowB b) (mkS p).f0 (mkS p).f1 (mkS p).f2 (mkS p).f3 (mkS p).f4 (mkS p).f5 (mkS p).f6 (mkS p).f7) (rowB (b ++ bytesP p)) := by
  have fl : ∀ m : List Nat, (field m).length ≤ 17 := fun m => by
    unfold field; split
    · simp; omega
    · simp
  have e3 : ∀ (b : List Nat) (k : Nat), (b ++ nb k 0).length = b.length + k := fun b k => by rw [List.length_append, nb_length]
  have c8 : cnt 8 = 8 := rfl
  have c1 : cnt 1 = 1 := rfl
  have w1 : wrap64 (((0 : Nat) : Int) + 1) = ((1 : Nat) : Int) := w64_ _ (by decide) (by decide)
  have w2 : wrap64 (((1 : Nat) : Int) + 1) = ((2 : Nat) : Int) := w64_ _ (by decide) (by decide)
  have w3 : wrap64 (((2 : Nat) : Int) + 1) = ((3 : Nat) : Int) := w64_ _ (by decide) (by decide)
  have h1 : IntKind.u64.wrap (mkS p).f3 = ((p.d : Nat) : Int) := by
    rw [wu64]; show ((p.d : Int) % _) = _; have := g.d; omega
  have r0 : rd [(mkS p).f0, (mkS p).f1, (mkS p).f2] ((0 : Nat) : Int) = (p.a : Int) := rfl
  have r1 : rd [(mkS p).f0, (mkS p).f1, (mkS p).f2] ((1 : Nat) : Int) = (p.b : Int) := rfl
  have r2 : rd [(mkS p).f0, (mkS p).f1, (mkS p).f2] ((2 : Nat) : Int) = (p.c : Int) := rfl
  refine Ev.congr (f := fun k => wire_put.l0 k (rowB b) [(mkS p).f0, (mkS p).f1, (mkS p).f2] 3 ((0 : Nat) : Int) (mkS p).f0 (mkS p).f1 (mkS p).f2 (mkS p).f3 (mkS p).f4 (mkS p).f5 (mkS p).f6 (mkS p).f7) (fun k => by rw [wire_put.f, Option.bind_some]; rfl) ?_
  refine Ev.step (f := fun k => wire_put.l0 k (rowB (b ++ nb 8 p.a)) [(mkS p).f0, (mkS p).f1, (mkS p).f2] 3 ((1 : Nat) : Int) (mkS p).f0 (mkS p).f1 (mkS p).f2 (mkS p).f3 (mkS p).f4 (mkS p).f5 (mkS p).f6 (mkS p).f7) (fun k => by rw [wire_put.l0, if_pos (by decide), if_pos (by decide), if_pos (by simp), r0, pack_Put_nat b p.a 8 (by omega), Option.bind_some, c8, w1]) ?_
  refine Ev.step (f := fun k => wire_put.l0 k (rowB (b ++ nb 8 p.a ++ nb 8 p.b)) [(mkS p).f0, (mkS p).f1, (mkS p).f2] 3 ((2 : Nat) : Int) (mkS p).f0 (mkS p).f1 (mkS p).f2 (mkS p).f3 (mkS p).f4 (mkS p).f5 (mkS p).f6 (mkS p).f7) (fun k => by rw [wire_put.l0, if_pos (by decide), if_pos (by decide), if_pos (by simp), r1, pack_Put_nat _ p.b 8 (by rw [List.length_append, nb_length]; omega), Option.bind_some, c8, w2]) ?_
  refine Ev.step (f := fun k => wire_put.l0 k (rowB (b ++ nb 8 p.a ++ nb 8 p.b ++ nb 8 p.c)) [(mkS p).f0, (mkS p).f1, (mkS p).f2] 3 ((3 : Nat) : Int) (mkS p).f0 (mkS p).f1 (mkS p).f2 (mkS p).f3 (mkS p).f4 (mkS p).f5 (mkS p).f6 (mkS p).f7) (fun k => by rw [wire_put.l0, if_pos (by decide), if_pos (by decide), if_pos (by simp), r2, pack_Put_nat _ p.c 8 (by simp only [List.length_append, nb_length]; omega), Option.bind_some, c8, w3]) ?_
  refine Ev.step (f := fun k => some (rowB (b ++ bytesP p))) (fun k => ?_) (Ev.now _)
  rw [wire_put.l0, if_neg (by decide), h1, pack_Put_nat _ p.d 1 (by simp only [List.length_append, nb_length]; omega), Option.bind_some, c1, u64n_wu (mkS p).f6, pack_Put_nat _ (u64n (mkS p).f6) 8 (by simp only [List.length_append, nb_length]; omega), Option.bind_some, c8, u64n_wu (mkS p).f7,
    pack_Put_nat _ (u64n (mkS p).f7) 8 (by simp only [List.length_append, nb_length]; omega), Option.bind_some, c8]
  show ((pack_PutText.f _ (txt p.h)).bind fun t136 => ((pack_PutText.f t136 (txt p.n)).bind fun t139 => (some t139))) = _
  rw [pack_PutText_nat _ p.h g.h (by simp only [List.length_append, nb_length]; omega), Option.bind_some, pack_PutText_nat _ p.n g.n (by have := fl p.h; simp only [List.length_append, nb_length]; omega), Option.bind_some]
  unfold bytesP
  simp only [List.append_assoc]
  rfl
theorem wire_Put_l0 (l : List PS) (g : ∀ p ∈ l, p.good) (gh : ∀ p ∈ l, p.h.length < 4611686018427387904 ∧ p.n.length < 4611686018427387904) (hl : l.length ≤ 32) : ∀ (d i : Nat) (acc : List Nat), i + d = l.length → acc.length ≤ 100000 + 75 * i →
    Ev (fun k => wire_Put.l0 k (rowB acc) (l.map mkS) (l.length : Int) (i : Int)) (if (l.drop i).all mayP = true then (rowB (acc ++ (l.drop i).flatMap bytesP), 0) else ([], 1)) := by
  intro d
  induction d with
  | zero =>
    intro i acc hi ha
    rw [List.drop_of_length_le (by omega)]
    refine Ev.step (f := fun _ => some (rowB acc, 0)) (fun k => by rw [wire_Put.l0, if_neg (by omega)]) (ev_eq (Ev.now _) ?_)
    simp
  | succ d ih =>
    intro i acc hi ha
    have hil : i < l.length := by omega
    have hm : l[i] ∈ l := List.getElem_mem hil
    have e : wrap64 ((i : Int) + 1) = ((i + 1 : Nat) : Int) := w64_ _ (by omega) (by omega)
    rw [List.drop_eq_getElem_cons hil, List.all_cons, List.flatMap_cons]
    refine Ev.step (f := fun k => (span_May.f k (mkS l[i]).f0 (mkS l[i]).f1 (mkS l[i]).f2 (mkS l[i]).f3 (mkS l[i]).f4 (mkS l[i]).f5 (mkS l[i]).f6 (mkS l[i]).f7).bind fun t150 => (if t150 = true then ((wire_put.f k (rowB []) (mkS l[i]).f0 (mkS l[i]).f1 (mkS l[i]).f2 (mkS l[i]).f3 (mkS l[i]).f4 (mkS l[i]).f5 (mkS l[i]).f6 (mkS l[i]).f7).bind fun t151 => (if (rowB acc).length + t151.length < 140737488355328 then (wire_Put.l0 k (rowB acc ++ t151) (l.map mkS) (l.length : Int) ((i + 1 : Nat) : Int)) else (none))) else (some ([], 1)))) (fun k => ?_) ?_
    · rw [wire_Put.l0, if_pos (by omega), if_pos (by omega), if_pos (by rw [List.length_map]; omega), rd_mkS l i hil, e]; rfl
    · refine Ev.bind (mayP_ev l[i] (g _ hm) (gh _ hm).1 (gh _ hm).2) ?_
      cases hmay : mayP l[i] with
      | false =>
        rw [Bool.false_and, if_neg (by decide)]
        exact Ev.congr (fun k => if_neg (by decide)) (Ev.now _)
      | true =>
        rw [Bool.true_and]
        refine Ev.congr (fun k => if_pos rfl) ?_
        have hw := wire_put_ev [] l[i] (g _ hm) (by simp)
        rw [List.nil_append] at hw
        obtain ⟨m1, m2⟩ := mayP_names hmay
        have hbl := bytesP_length (nameB_len m1).2 (nameB_len m2).2
        refine Ev.bind hw ?_
        refine Ev.congr (f := fun k => wire_Put.l0 k (rowB (acc ++ bytesP l[i])) (l.map mkS) (l.length : Int) ((i + 1 : Nat) : Int)) (fun k => by rw [if_pos (by rw [rowB_length, rowB_length, hbl]; omega), rowB_append]) ?_
        have := ih (i + 1) (acc ++ bytesP l[i]) (by omega) (by rw [List.length_append, hbl]; omega)
        rwa [List.append_assoc] at this
theorem wire_Put_ev (l : List PS) (g : ∀ p ∈ l, p.good) (gh : ∀ p ∈ l, p.h.length < 4611686018427387904 ∧ p.n.length < 4611686018427387904) : Ev (fun k => wire_Put.f k (l.map mkS)) (rowB (wirePut l).1, (wirePut l).2) := by
  have key : ∀ x : Bool, (x = false → 1 ≤ l.length ∧ l.length ≤ 32) → Ev (fun k => wire_Put.j0 k (l.map mkS) x) (if x = false ∧ l.all mayP = true then (rowB (spanHead ++ nb 2 l.length ++ l.flatMap bytesP), 0) else ([], 1)) := by
    intro x hx
    cases x with
    | true => exact Ev.step (f := fun _ => some ([], 1)) (fun k => by rw [wire_Put.j0, if_pos rfl]) (Ev.now _)
    | false =>
      obtain ⟨h1, h2⟩ := hx rfl
      have := wire_Put_l0 l g gh h2 l.length 0 (spanHead ++ nb 2 l.length) (by omega) (by rw [List.length_append, nb_length]; decide)
      rw [List.drop_zero] at this
      refine ev_eq (Ev.step (f := fun k => wire_Put.l0 k (rowB (spanHead ++ nb 2 l.length)) (l.map mkS) (l.length : Int) ((0 : Nat) : Int)) (fun k => ?_) this) ?_
      · have e : IntKind.u64.wrap ((l.map mkS).length : Int) = ((l.length : Nat) : Int) := by rw [wu64, List.length_map]; omega
        rw [wire_Put.j0, if_neg (by decide), e, show ([83, 80, 65, 78] : List Int) = rowB spanHead from rfl, pack_Put_nat _ _ _ (by decide), Option.bind_some, List.length_map]; rfl
      · simp only [true_and]
  unfold wirePut
  by_cases h1 : (l.length : Int) < 1
  · refine ev_eq (Ev.congr (f := fun k => wire_Put.j0 k (l.map mkS) true) (fun k => by rw [wire_Put.f, List.length_map, if_pos h1]) (key true (fun h => absurd h (by decide)))) ?_
    rw [if_neg (by simp), if_neg (by omega)]; rfl
  · by_cases h2 : (l.length : Int) > 32
    · refine ev_eq (Ev.congr (f := fun k => wire_Put.j0 k (l.map mkS) true) (fun k => by rw [wire_Put.f, List.length_map, if_neg h1, decide_eq_true h2]) (key true (fun h => absurd h (by decide)))) ?_
      rw [if_neg (by simp), if_neg (by omega)]; rfl
    · refine ev_eq (Ev.congr (f := fun k => wire_Put.j0 k (l.map mkS) false) (fun k => by rw [wire_Put.f, List.length_map, if_neg h1, decide_eq_false h2]) (key false (fun _ => ⟨by omega, by omega⟩))) ?_
      by_cases h3 : l.all mayP = true
      · rw [if_pos ⟨rfl, h3⟩, if_pos ⟨by omega, by omega, h3⟩]
      · rw [if_neg (fun h => h3 h.2), if_neg (fun h => h3 h.2.2)]; rfl
end Go.Proofs.Ytdpodjgggicaoaa.CW
