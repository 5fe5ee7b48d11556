/- Layer 4's Put, the document's: it is the plain one of H7. -/
import Derived.Test.YtdpodjgggicaoaaWC7
import Derived.Test.YtdpodjgggicaoaaWC5r
import Derived.Test.YtdpodjgggicaoaaWx10
set_option linter.unusedVariables false
set_option linter.unusedSimpArgs false
namespace Go.Proofs.Ytdpodjgggicaoaa.W
open Go.RowKit Go.Proofs.YtdpodjgggicaoaaW.PrintWords Go.Proofs.YtdpodjgggicaoaaW.PrintLast Go.Proofs.YtdpodjgggicaoaaW.PrintMore Go.Proofs.Ytdpodjgggicaoaa.H

theorem ref2_Put_ev (n : Nat) (size : Int) (hn : n < 18446744073709551616) : Ev (fun k => merkhetref02_Put.f k (n : Int) size) (txt (nb (cnt size) n)) := ⟨9, fun k hk => ref_Put_nat k hk n size hn⟩
theorem ref2_PutText_ev (s : List Nat) (hl : s.length ≤ 140737488351232) : Ev (fun k => merkhetref02_PutText.f k (txt s)) (txt (field s)) := ⟨18, fun k hk => ref_PutText_nat k hk s hl⟩
theorem ref_Span_ev (p : PS) (g : p.good) (hl : p.h.length ≤ 140737488351232) (nl : p.n.length ≤ 140737488351232) : Ev (fun k => merkhetref04_Span.f k (mkS p).f0 (mkS p).f1 (mkS p).f2 (mkS p).f3 (mkS p).f4 (mkS p).f5 (mkS p).f6 (mkS p).f7) (txt (bytesP p)) := by
  have fl : ∀ m : List Nat, (field m).length ≤ 17 := fun m => by
    unfold field; split
    · simp; omega
    · simp
  have h1 : IntKind.u64.wrap (mkS p).f3 = ((p.d : Nat) : Int) := by
    rw [wu64]; show ((p.d : Int) % _) = _; have := g.d; omega
  have h2 := fl p.h
  have h3 := fl p.n
  have gd := g.d
  unfold merkhetref04_Span.f
  refine Ev.bind (ref2_Put_ev p.a 8 g.a) ?_
  refine Ev.bind (ref2_Put_ev p.b 8 g.b) ?_
  refine Ev.congr (fun k => if_pos (by simp only [txt_size, nb_length]; decide)) ?_
  refine Ev.bind (ref2_Put_ev p.c 8 g.c) ?_
  refine Ev.congr (fun k => if_pos (by simp only [txt_append, txt_size, List.length_append, nb_length]; decide)) ?_
  rw [h1]
  refine Ev.bind (ref2_Put_ev p.d 1 (by omega)) ?_
  refine Ev.congr (fun k => if_pos (by simp only [txt_append, txt_size, List.length_append, nb_length]; decide)) ?_
  rw [u64n_wu (mkS p).f6]
  refine Ev.bind (ref2_Put_ev (u64n (mkS p).f6) 8 (u64n_lt _)) ?_
  refine Ev.congr (fun k => if_pos (by simp only [txt_append, txt_size, List.length_append, nb_length]; decide)) ?_
  rw [u64n_wu (mkS p).f7]
  refine Ev.bind (ref2_Put_ev (u64n (mkS p).f7) 8 (u64n_lt _)) ?_
  refine Ev.congr (fun k => if_pos (by simp only [txt_append, txt_size, List.length_append, nb_length]; decide)) ?_
  refine Ev.bind (ref2_PutText_ev p.h hl) ?_
  have c8 : cnt 8 = 8 := rfl
  have c1 : cnt 1 = 1 := rfl
  refine Ev.congr (fun k => if_pos (by simp only [txt_append, txt_size, List.length_append, nb_length, c8, c1]; omega)) ?_
  refine Ev.bind (ref2_PutText_ev p.n nl) ?_
  refine Ev.congr (fun k => if_pos (by simp only [txt_append, txt_size, List.length_append, nb_length, c8, c1]; omega)) ?_
  refine ev_eq (Ev.now _) ?_
  simp only [txt_append]
  rfl
theorem ref_May4_l0 (l : List PS) (g : ∀ p ∈ l, p.good) (gh : ∀ p ∈ l, p.h.length < 4611686018427387904 ∧ p.n.length < 4611686018427387904) (hl : l.length ≤ 100000) : ∀ (d i : Nat), i + d = l.length → Ev (fun k => merkhetref04_May.l0 k (l.map mkS) (i : Int)) ((l.drop i).all mayP) := by
  intro d
  induction d with
  | zero =>
    intro i hi
    rw [List.drop_of_length_le (by omega)]
    exact Ev.step (f := fun _ => some true) (fun k => by rw [merkhetref04_May.l0, if_neg (by rw [List.length_map]; omega)]) (Ev.now _)
  | succ d ih =>
    intro i hi
    have hil : i < l.length := by omega
    have hm : l[i] ∈ l := List.getElem_mem hil
    have e : wrap64 ((i : Int) + 1) = ((i + 1 : Nat) : Int) := w64_ _ (by omega) (by omega)
    rw [List.drop_eq_getElem_cons hil, List.all_cons]
    refine Ev.step (f := fun k => (merkhetref01_May.f k (mkS l[i]).f0 (mkS l[i]).f1 (mkS l[i]).f2 (mkS l[i]).f3 (mkS l[i]).f4 (mkS l[i]).f5 (mkS l[i]).f6 (mkS l[i]).f7).bind fun t => (if t = true then (merkhetref04_May.l0 k (l.map mkS) ((i + 1 : Nat) : Int)) else (some false))) (fun k => by rw [merkhetref04_May.l0, if_pos (by rw [List.length_map]; omega), if_pos (by omega), rd_mkS l i hil, e]) ?_
    refine Ev.bind (ref_May_ev _ _ _ _ _ _ _ _ (by show (0 : Int) ≤ (l[i].d : Int); omega) (g _ hm).h (gh _ hm).1 (g _ hm).n (gh _ hm).2) ?_
    cases hmay : mayP l[i] with
    | false =>
      have : mayB (mkS l[i]).f0 (mkS l[i]).f1 (mkS l[i]).f2 (mkS l[i]).f3 l[i].h l[i].n (mkS l[i]).f6 (mkS l[i]).f7 = false := hmay
      rw [Bool.false_and]
      exact Ev.congr (fun k => by rw [this, if_neg (by decide)]) (Ev.now _)
    | true =>
      have : mayB (mkS l[i]).f0 (mkS l[i]).f1 (mkS l[i]).f2 (mkS l[i]).f3 l[i].h l[i].n (mkS l[i]).f6 (mkS l[i]).f7 = true := hmay
      rw [Bool.true_and]
      exact Ev.congr (fun k => by rw [this, if_pos rfl]) (ih (i + 1) (by omega))
theorem ref_May4_ev (l : List PS) (g : ∀ p ∈ l, p.good) (gh : ∀ p ∈ l, p.h.length < 4611686018427387904 ∧ p.n.length < 4611686018427387904) : Ev (fun k => merkhetref04_May.f k (l.map mkS)) (decide (1 ≤ l.length ∧ l.length ≤ 32 ∧ l.all mayP = true)) := by
  have k1 : Ev (fun k => merkhetref04_May.j0 k (l.map mkS) true) false := Ev.step (f := fun _ => some false) (fun k => by rw [merkhetref04_May.j0, if_pos rfl]) (Ev.now _)
  by_cases h1 : (l.length : Int) = 0
  · refine ev_eq (Ev.congr (f := fun k => merkhetref04_May.j0 k (l.map mkS) true) (fun k => by rw [merkhetref04_May.f, List.length_map, if_pos h1]) k1) ?_
    rw [decide_eq_false (by omega)]
  · by_cases h2 : (l.length : Int) > 32
    · refine ev_eq (Ev.congr (f := fun k => merkhetref04_May.j0 k (l.map mkS) true) (fun k => by rw [merkhetref04_May.f, List.length_map, if_neg h1, decide_eq_true h2]) k1) ?_
      rw [decide_eq_false (by omega)]
    · have := ref_May4_l0 l g gh (by omega) l.length 0 (by omega)
      rw [List.drop_zero] at this
      refine ev_eq (Ev.congr (f := fun k => merkhetref04_May.j0 k (l.map mkS) false) (fun k => by rw [merkhetref04_May.f, List.length_map, if_neg h1, decide_eq_false h2]) (Ev.step (f := fun k => merkhetref04_May.l0 k (l.map mkS) ((0 : Nat) : Int)) (fun k => by rw [merkhetref04_May.j0, if_neg (by decide)]; rfl) this)) ?_
      by_cases h3 : l.all mayP = true
      · rw [h3, decide_eq_true ⟨by omega, by omega, rfl⟩]
      · rw [Bool.eq_false_iff.2 h3, decide_eq_false (by simp)]
theorem ref_Put4_l0 (l : List PS) (g : ∀ p ∈ l, p.good) (gh : ∀ p ∈ l, p.h.length ≤ 16 ∧ p.n.length ≤ 16) (hl : l.length ≤ 32) : ∀ (d i : Nat) (acc : List Nat), i + d = l.length → acc.length ≤ 100000 + 75 * i →
    Ev (fun k => merkhetref04_Put.l0 k (l.map mkS) (txt acc) (i : Int)) (txt (acc ++ (l.drop i).flatMap bytesP), 0) := by
  intro d
  induction d with
  | zero =>
    intro i acc hi ha
    rw [List.drop_of_length_le (by omega)]
    refine Ev.step (f := fun _ => some (txt acc, 0)) (fun k => by rw [merkhetref04_Put.l0, if_neg (by rw [List.length_map]; omega)]) (ev_eq (Ev.now _) ?_)
    simp
  | succ d ih =>
    intro i acc hi ha
    have hil : i < l.length := by omega
    have hm : l[i] ∈ l := List.getElem_mem hil
    have e : wrap64 ((i : Int) + 1) = ((i + 1 : Nat) : Int) := w64_ _ (by omega) (by omega)
    have hbl := bytesP_length (gh _ hm).1 (gh _ hm).2
    have h1 := (gh _ hm).1
    have h2 := (gh _ hm).2
    rw [List.drop_eq_getElem_cons hil, List.flatMap_cons]
    refine Ev.step (f := fun k => (merkhetref04_Span.f k (mkS l[i]).f0 (mkS l[i]).f1 (mkS l[i]).f2 (mkS l[i]).f3 (mkS l[i]).f4 (mkS l[i]).f5 (mkS l[i]).f6 (mkS l[i]).f7).bind fun t => (if (txt acc).size + t.size ≤ 9223372036854775807 then (merkhetref04_Put.l0 k (l.map mkS) (txt acc ++ t) ((i + 1 : Nat) : Int)) else (none))) (fun k => by rw [merkhetref04_Put.l0, if_pos (by rw [List.length_map]; omega), if_pos (by omega), rd_mkS l i hil, e]) ?_
    refine Ev.bind (ref_Span_ev l[i] (g _ hm) (by omega) (by omega)) ?_
    refine Ev.congr (f := fun k => merkhetref04_Put.l0 k (l.map mkS) (txt (acc ++ bytesP l[i])) ((i + 1 : Nat) : Int)) (fun k => by rw [if_pos (by rw [txt_size, txt_size, hbl]; omega), txt_append]) ?_
    have := ih (i + 1) (acc ++ bytesP l[i]) (by omega) (by rw [List.length_append, hbl]; omega)
    rwa [List.append_assoc] at this
theorem ref_Put4_ev (l : List PS) (g : ∀ p ∈ l, p.good) (gh : ∀ p ∈ l, p.h.length < 4611686018427387904 ∧ p.n.length < 4611686018427387904) : Ev (fun k => merkhetref04_Put.f k (l.map mkS)) (txt (wirePut l).1, (wirePut l).2) := by
  unfold merkhetref04_Put.f
  refine Ev.bind (ref_May4_ev l g gh) ?_
  unfold wirePut
  by_cases h : 1 ≤ l.length ∧ l.length ≤ 32 ∧ l.all mayP = true
  · rw [if_pos h, decide_eq_true h]
    refine Ev.congr (fun k => if_pos rfl) ?_
    have e : IntKind.u64.wrap ((l.map mkS).length : Int) = ((l.length : Nat) : Int) := by rw [wu64, List.length_map]; have := h.2.1; omega
    rw [e]
    have h2 := h.2.1
    refine Ev.bind (ref2_Put_ev l.length 2 (by omega)) ?_
    refine Ev.congr (fun k => if_pos (by rw [txt_size, nb_length]; decide)) ?_
    rw [show (⟨#[83, 80, 65, 78]⟩ : ByteArray) = txt spanHead from rfl, txt_append]
    have gh2 : ∀ p ∈ l, p.h.length ≤ 16 ∧ p.n.length ≤ 16 := fun p hp => by
      obtain ⟨m1, m2⟩ := mayP_names (List.all_eq_true.1 h.2.2 p hp)
      exact ⟨(nameB_len m1).2, (nameB_len m2).2⟩
    have := ref_Put4_l0 l g gh2 h.2.1 l.length 0 (spanHead ++ nb 2 l.length) (by omega) (by rw [List.length_append, nb_length]; decide)
    rw [List.drop_zero] at this
    exact this
  · rw [if_neg h, decide_eq_false h]
    exact Ev.congr (fun k => if_neg (by decide)) (Ev.now _)
end Go.Proofs.Ytdpodjgggicaoaa.W
