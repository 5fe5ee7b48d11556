/- Layer 1's functions, the program's and the document's, that tell whether names and spans may be: they are the plain ones of H6. -/
import Derived.Test.YtdpodjgggicaoaaH6
import Derived.Test.YtdpodjgggicaoaaCWx3
import Derived.Test.YtdpodjgggicaoaaCWx8
set_option linter.unusedVariables false
set_option linter.unusedSimpArgs false
namespace Go.Proofs.Ytdpodjgggicaoaa.CW
open Go.RowKit Go.Proofs.YtdpodjgggicaoaaW.PrintWords Go.Proofs.YtdpodjgggicaoaaW.PrintLast Go.Proofs.YtdpodjgggicaoaaW.PrintMore Go.Proofs.Ytdpodjgggicaoaa.H

theorem w64_ (x : Int) (h0 : 0 ≤ x) (h1 : x ≤ 9223372036854775807) : wrap64 x = x := by unfold wrap64; omega
theorem ev_eq {α : Type} {g : Nat → Option α} {r r' : α} (h : Ev g r) (e : r = r') : Ev g r' := e ▸ h
theorem span_letter_eq (c : Int) : span_letter.f c = some (letterB c) := by
  have hb : (c == 95) = decide (c = 95) := by by_cases h : c = 95 <;> simp [h]
  unfold span_letter.f letterB
  rw [hb]
  (repeat' split) <;> (congr 1; simp; omega)
theorem drop_all {m : List Nat} {i : Nat} (h : i < m.length) (p : Nat → Bool) : (m.drop i).all p = (p (m.getD i 0) && (m.drop (i + 1)).all p) := by
  rw [List.drop_eq_getElem_cons h, List.all_cons, List.getD_eq_getElem?_getD, List.getElem?_eq_getElem h]; rfl
theorem drop_any {m : List Nat} {i : Nat} (h : i < m.length) (p : Nat → Bool) : (m.drop i).any p = (p (m.getD i 0) || (m.drop (i + 1)).any p) := by
  rw [List.drop_eq_getElem_cons h, List.any_cons, List.getD_eq_getElem?_getD, List.getElem?_eq_getElem h]; rfl
theorem span_Name_l0 (m : List Nat) (hb : isB m) (hl : m.length < 4611686018427387904) : ∀ (d i : Nat), i + d = m.length → Ev (fun k => span_Name.l0 k (txt m) (m.length : Int) (i : Int)) ((m.drop i).all fun c => letterB (c : Int)) := by
  intro d
  induction d with
  | zero =>
    intro i hi
    rw [List.drop_of_length_le (by omega)]
    exact Ev.step (f := fun _ => some true) (fun k => by rw [span_Name.l0, if_neg (by omega)]) (Ev.now _)
  | succ d ih =>
    intro i hi
    have hil : i < m.length := by omega
    have e : wrap64 ((i : Int) + 1) = ((i + 1 : Nat) : Int) := w64_ _ (by omega) (by omega)
    rw [drop_all hil]
    cases hc : letterB ((m.getD i 0 : Nat) : Int) with
    | true =>
      rw [Bool.true_and]
      refine Ev.step (f := fun k => span_Name.l0 k (txt m) (m.length : Int) ((i + 1 : Nat) : Int)) (fun k => ?_) (ih (i + 1) (by omega))
      rw [span_Name.l0, if_pos (by omega), if_pos (by omega), txt_size, if_pos (by omega), bt_txt m hb i hil, span_letter_eq, Option.bind_some, hc, if_pos rfl, e]
    | false =>
      rw [Bool.false_and]
      refine Ev.step (f := fun _ => some false) (fun k => ?_) (Ev.now _)
      rw [span_Name.l0, if_pos (by omega), if_pos (by omega), txt_size, if_pos (by omega), bt_txt m hb i hil, span_letter_eq, Option.bind_some, hc, if_neg (by decide)]
theorem span_Name_ev (m : List Nat) (hb : isB m) (hl : m.length < 4611686018427387904) : Ev (fun k => span_Name.f k (txt m)) (nameB m) := by
  have key : ∀ b : Bool, Ev (fun k => span_Name.j0 k (txt m) b) (!b && m.all fun c => letterB (c : Int)) := by
    intro b
    cases b with
    | true => exact Ev.step (f := fun _ => some false) (fun k => by rw [span_Name.j0, if_pos rfl]) (Ev.now _)
    | false =>
      have := span_Name_l0 m hb hl m.length 0 (by omega)
      rw [List.drop_zero] at this
      exact Ev.step (f := fun k => span_Name.l0 k (txt m) (m.length : Int) ((0 : Nat) : Int)) (fun k => by rw [span_Name.j0, if_neg (by decide), txt_size]; rfl) this
  unfold nameB
  by_cases h1 : (m.length : Int) < 1
  · refine ev_eq (Ev.congr (f := fun k => span_Name.j0 k (txt m) true) (fun k => by rw [span_Name.f, txt_size, if_pos h1]) (key true)) ?_
    rw [decide_eq_false (by omega)]; rfl
  · refine ev_eq (Ev.congr (f := fun k => span_Name.j0 k (txt m) (decide ((m.length : Int) > 16))) (fun k => by rw [span_Name.f, txt_size, if_neg h1]) (key _)) ?_
    rw [decide_eq_true (show 1 ≤ m.length by omega), Bool.true_and]
    congr 1
    by_cases h2 : (m.length : Int) > 16
    · rw [decide_eq_true h2, decide_eq_false (by omega)]; rfl
    · rw [decide_eq_false h2, decide_eq_true (by omega)]; rfl
theorem signs_txt : (⟨#[97, 98, 99, 100, 101, 102, 103, 104, 105, 106, 107, 108, 109, 110, 111, 112, 113, 114, 115, 116, 117, 118, 119, 120, 121, 122, 48, 49, 50, 51, 52, 53, 54, 55, 56, 57, 45, 46, 95]⟩ : ByteArray) = txt signs := rfl
theorem ref_Name_l1 (m : List Nat) (hb : isB m) (i : Nat) (hi : i < m.length) (r : Bool) (e : wrap64 ((i : Int) + 1) = ((i + 1 : Nat) : Int)) (hr : Ev (fun k => merkhetref01_Name.l0 k (txt m) (txt signs) ((i + 1 : Nat) : Int)) r) : ∀ (d j : Nat) (b : Bool), j + d = 39 →
    Ev (fun k => merkhetref01_Name.l1 k (txt m) (txt signs) (i : Int) b (j : Int)) ((b || (signs.drop j).any fun s => decide ((s : Int) = ((m.getD i 0 : Nat) : Int))) && r) := by
  have h39 : signs.length = 39 := rfl
  intro d
  induction d with
  | zero =>
    intro j b hj
    rw [List.drop_of_length_le (by omega), List.any_nil, Bool.or_false]
    cases b with
    | true =>
      rw [Bool.true_and]
      refine Ev.step (f := fun k => merkhetref01_Name.l0 k (txt m) (txt signs) ((i + 1 : Nat) : Int)) (fun k => ?_) hr
      rw [merkhetref01_Name.l1, txt_size, if_neg (by omega), if_pos rfl, e]
    | false =>
      refine Ev.step (f := fun _ => some false) (fun k => ?_) (Ev.now _)
      rw [merkhetref01_Name.l1, txt_size, if_neg (by omega), if_neg (by decide)]
  | succ d ih =>
    intro j b hj
    have hjl : j < signs.length := by omega
    have e2 : wrap64 ((j : Int) + 1) = ((j + 1 : Nat) : Int) := w64_ _ (by omega) (by omega)
    rw [drop_any hjl]
    by_cases hc : (((signs.getD j 0 : Nat) : Int)) = ((m.getD i 0 : Nat) : Int)
    · rw [decide_eq_true hc, Bool.true_or, Bool.or_true]
      have := ih (j + 1) true (by omega)
      rw [Bool.true_or] at this
      refine Ev.step (f := fun k => merkhetref01_Name.l1 k (txt m) (txt signs) (i : Int) true ((j + 1 : Nat) : Int)) (fun k => ?_) this
      rw [merkhetref01_Name.l1, txt_size, if_pos (by omega), if_pos (by omega), if_pos (by omega), txt_size, if_pos (by omega), bt_txt signs signs_isB j hjl, bt_txt m hb i hi, if_pos hc, e2]
    · rw [decide_eq_false hc, Bool.false_or]
      refine Ev.step (f := fun k => merkhetref01_Name.l1 k (txt m) (txt signs) (i : Int) b ((j + 1 : Nat) : Int)) (fun k => ?_) (ih (j + 1) b (by omega))
      rw [merkhetref01_Name.l1, txt_size, if_pos (by omega), if_pos (by omega), if_pos (by omega), txt_size, if_pos (by omega), bt_txt signs signs_isB j hjl, bt_txt m hb i hi, if_neg hc, e2]
theorem ref_Name_l0 (m : List Nat) (hb : isB m) (hl : m.length < 4611686018427387904) : ∀ (d i : Nat), i + d = m.length → Ev (fun k => merkhetref01_Name.l0 k (txt m) (txt signs) (i : Int)) ((m.drop i).all fun c => letterB (c : Int)) := by
  intro d
  induction d with
  | zero =>
    intro i hi
    rw [List.drop_of_length_le (by omega)]
    exact Ev.step (f := fun _ => some true) (fun k => by rw [merkhetref01_Name.l0, txt_size, if_neg (by omega)]) (Ev.now _)
  | succ d ih =>
    intro i hi
    have hil : i < m.length := by omega
    have e : wrap64 ((i : Int) + 1) = ((i + 1 : Nat) : Int) := w64_ _ (by omega) (by omega)
    have h1 := ref_Name_l1 m hb i hil _ e (ih (i + 1) (by omega)) 39 0 false rfl
    rw [List.drop_zero, Bool.false_or, letter_signs _ (getD_lt hb i)] at h1
    rw [drop_all hil]
    refine Ev.step (f := fun k => merkhetref01_Name.l1 k (txt m) (txt signs) (i : Int) false ((0 : Nat) : Int)) (fun k => ?_) h1
    rw [merkhetref01_Name.l0, txt_size, if_pos (by omega)]; rfl
theorem ref_Name_ev (m : List Nat) (hb : isB m) (hl : m.length < 4611686018427387904) : Ev (fun k => merkhetref01_Name.f k (txt m)) (nameB m) := by
  have key : ∀ b : Bool, Ev (fun k => merkhetref01_Name.j0 k (txt m) b) (!b && m.all fun c => letterB (c : Int)) := by
    intro b
    cases b with
    | true => exact Ev.step (f := fun _ => some false) (fun k => by rw [merkhetref01_Name.j0, if_pos rfl]) (Ev.now _)
    | false =>
      have := ref_Name_l0 m hb hl m.length 0 (by omega)
      rw [List.drop_zero] at this
      exact Ev.step (f := fun k => merkhetref01_Name.l0 k (txt m) (txt signs) ((0 : Nat) : Int)) (fun k => by rw [merkhetref01_Name.j0, if_neg (by decide), signs_txt]; rfl) this
  unfold nameB
  by_cases h1 : m = []
  · subst h1
    refine ev_eq (Ev.congr (f := fun k => merkhetref01_Name.j0 k (txt []) true) (fun k => by rw [merkhetref01_Name.f, txt_toList, if_pos (show List.map UInt8.ofNat [] = [] from rfl)]) (key true)) ?_
    simp
  · have h0 : 1 ≤ m.length := by cases m with
      | nil => exact absurd rfl h1
      | cons _ _ => simp
    refine ev_eq (Ev.congr (f := fun k => merkhetref01_Name.j0 k (txt m) (decide ((m.length : Int) > 16))) (fun k => by rw [merkhetref01_Name.f, txt_toList, if_neg (by simpa using h1), txt_size]) (key _)) ?_
    rw [decide_eq_true h0, Bool.true_and]
    congr 1
    by_cases h2 : (m.length : Int) > 16
    · rw [decide_eq_true h2, decide_eq_false (by omega)]; rfl
    · rw [decide_eq_false h2, decide_eq_true (by omega)]; rfl
/-! spans -/
theorem span_May_ev (a b c d : Int) (h n : List Nat) (s t : Int) (hh : isB h) (hhl : h.length < 4611686018427387904) (hn : isB n) (hnl : n.length < 4611686018427387904) : Ev (fun k => span_May.f k a b c d (txt h) (txt n) s t) (mayB a b c d h n s t) := by
  have k1 : ∀ x : Bool, Ev (fun k => span_May.j1 k x a b c d (txt h) (txt n) s t) (!x && (nameB h && nameB n)) := by
    intro x
    cases x with
    | true => exact Ev.step (f := fun _ => some false) (fun k => by rw [span_May.j1, if_pos rfl]) (Ev.now _)
    | false =>
      refine Ev.step (f := fun k => (span_Name.f k (txt h)).bind fun t105 => (if t105 = true then ((span_Name.f k (txt n)).bind fun t106 => (some t106)) else (some false))) (fun k => by rw [span_May.j1, if_neg (by decide)]) ?_
      refine Ev.bind (span_Name_ev h hh hhl) ?_
      cases hb : nameB h with
      | true => exact Ev.congr (fun k => if_pos rfl) (Ev.bind (span_Name_ev n hn hnl) (Ev.now _))
      | false => exact Ev.congr (fun k => if_neg (by decide)) (Ev.now _)
  have k0 : ∀ x : Bool, Ev (fun k => span_May.j0 k x a b c d (txt h) (txt n) s t) (!x && (decide (0 ≤ s) && decide (s < 1125899906842624) && decide (0 ≤ t) && decide (t ≤ 1125899906842624) && (nameB h && nameB n))) := by
    intro x
    cases x with
    | true => exact Ev.step (f := fun _ => some false) (fun k => by rw [span_May.j0, if_pos rfl]) (Ev.now _)
    | false =>
      by_cases c1 : s < 0
      · refine ev_eq (Ev.step (f := fun k => span_May.j1 k true a b c d (txt h) (txt n) s t) (fun k => by rw [span_May.j0, if_neg (by decide), if_pos c1, decide_eq_true c1]) (k1 true)) ?_
        rw [decide_eq_false (by omega)]; rfl
      by_cases c2 : s ≥ 1125899906842624
      · refine ev_eq (Ev.step (f := fun k => span_May.j1 k true a b c d (txt h) (txt n) s t) (fun k => by rw [span_May.j0, if_neg (by decide), if_neg c1, if_pos c2, decide_eq_true c2]) (k1 true)) ?_
        rw [decide_eq_false (show ¬ s < 1125899906842624 by omega)]; simp
      by_cases c3 : t < 0
      · refine ev_eq (Ev.step (f := fun k => span_May.j1 k true a b c d (txt h) (txt n) s t) (fun k => by rw [span_May.j0, if_neg (by decide), if_neg c1, if_neg c2, if_pos c3, decide_eq_true c3]) (k1 true)) ?_
        rw [decide_eq_false (show ¬ 0 ≤ t by omega)]; simp
      · refine ev_eq (Ev.step (f := fun k => span_May.j1 k (decide (t > 1125899906842624)) a b c d (txt h) (txt n) s t) (fun k => by rw [span_May.j0, if_neg (by decide), if_neg c1, if_neg c2, if_neg c3]) (k1 _)) ?_
        rw [decide_eq_true (show 0 ≤ s by omega), decide_eq_true (show s < 1125899906842624 by omega), decide_eq_true (show 0 ≤ t by omega)]
        by_cases c4 : t > 1125899906842624
        · rw [decide_eq_true c4, decide_eq_false (by omega)]; simp
        · rw [decide_eq_false c4, decide_eq_true (by omega)]; simp
  unfold mayB
  by_cases c1 : a = 0
  · refine ev_eq (Ev.congr (f := fun k => span_May.j0 k true a b c d (txt h) (txt n) s t) (fun k => by rw [span_May.f, if_pos c1, beq_iff_eq.2 c1]) (k0 true)) ?_
    simp [c1]
  by_cases c2 : b = 0
  · refine ev_eq (Ev.congr (f := fun k => span_May.j0 k true a b c d (txt h) (txt n) s t) (fun k => by rw [span_May.f, if_neg c1, if_pos c2, beq_iff_eq.2 c2]) (k0 true)) ?_
    simp [c2]
  by_cases c3 : c = b
  · refine ev_eq (Ev.congr (f := fun k => span_May.j0 k true a b c d (txt h) (txt n) s t) (fun k => by rw [span_May.f, if_neg c1, if_neg c2, if_pos c3, beq_iff_eq.2 c3]) (k0 true)) ?_
    simp [c3]
  · refine ev_eq (Ev.congr (f := fun k => span_May.j0 k (decide (d > 2)) a b c d (txt h) (txt n) s t) (fun k => by rw [span_May.f, if_neg c1, if_neg c2, if_neg c3]) (k0 _)) ?_
    by_cases c4 : d > 2
    · rw [decide_eq_true c4, decide_eq_false (show ¬ d ≤ 2 by omega)]; simp
    · rw [decide_eq_false c4, decide_eq_true (show d ≤ 2 by omega)]; simp [c1, c2, c3, Bool.and_assoc]
theorem ref_May_ev (a b c d : Int) (h n : List Nat) (s t : Int) (hd : 0 ≤ d) (hh : isB h) (hhl : h.length < 4611686018427387904) (hn : isB n) (hnl : n.length < 4611686018427387904) : Ev (fun k => merkhetref01_May.f k a b c d (txt h) (txt n) s t) (mayB a b c d h n s t) := by
  have k2 : ∀ x : Bool, Ev (fun k => merkhetref01_May.j2 k x a b c d (txt h) (txt n) s t) (!x && (nameB h && nameB n)) := by
    intro x
    cases x with
    | true => exact Ev.step (f := fun _ => some false) (fun k => by rw [merkhetref01_May.j2, if_pos rfl]) (Ev.now _)
    | false =>
      refine Ev.step (f := fun k => (merkhetref01_Name.f k (txt h)).bind fun t105 => (if t105 = true then ((merkhetref01_Name.f k (txt n)).bind fun t106 => (some t106)) else (some false))) (fun k => by rw [merkhetref01_May.j2, if_neg (by decide)]) ?_
      refine Ev.bind (ref_Name_ev h hh hhl) ?_
      cases hb : nameB h with
      | true => exact Ev.congr (fun k => if_pos rfl) (Ev.bind (ref_Name_ev n hn hnl) (Ev.now _))
      | false => exact Ev.congr (fun k => if_neg (by decide)) (Ev.now _)
  have k1 : ∀ x : Bool, Ev (fun k => merkhetref01_May.j1 k x a b c d (txt h) (txt n) s t) (!x && (decide (0 ≤ s) && decide (s < 1125899906842624) && decide (0 ≤ t) && decide (t ≤ 1125899906842624) && (nameB h && nameB n))) := by
    intro x
    cases x with
    | true => exact Ev.step (f := fun _ => some false) (fun k => by rw [merkhetref01_May.j1, if_pos rfl]) (Ev.now _)
    | false =>
      by_cases c1 : s < 0
      · refine ev_eq (Ev.step (f := fun k => merkhetref01_May.j2 k true a b c d (txt h) (txt n) s t) (fun k => by rw [merkhetref01_May.j1, if_neg (by decide), if_pos c1]) (k2 true)) ?_
        rw [decide_eq_false (by omega)]; rfl
      by_cases c2 : s > 1125899906842623
      · refine ev_eq (Ev.step (f := fun k => merkhetref01_May.j2 k true a b c d (txt h) (txt n) s t) (fun k => by rw [merkhetref01_May.j1, if_neg (by decide), if_neg c1, if_pos c2]) (k2 true)) ?_
        rw [decide_eq_false (show ¬ s < 1125899906842624 by omega)]; simp
      by_cases c3 : t < 0
      · refine ev_eq (Ev.step (f := fun k => merkhetref01_May.j2 k true a b c d (txt h) (txt n) s t) (fun k => by rw [merkhetref01_May.j1, if_neg (by decide), if_neg c1, if_neg c2, if_pos c3]) (k2 true)) ?_
        rw [decide_eq_false (show ¬ 0 ≤ t by omega)]; simp
      · refine ev_eq (Ev.step (f := fun k => merkhetref01_May.j2 k (decide (t > 1125899906842624)) a b c d (txt h) (txt n) s t) (fun k => by rw [merkhetref01_May.j1, if_neg (by decide), if_neg c1, if_neg c2, if_neg c3]) (k2 _)) ?_
        rw [decide_eq_true (show 0 ≤ s by omega), decide_eq_true (show s < 1125899906842624 by omega), decide_eq_true (show 0 ≤ t by omega)]
        by_cases c4 : t > 1125899906842624
        · rw [decide_eq_true c4, decide_eq_false (by omega)]; simp
        · rw [decide_eq_false c4, decide_eq_true (by omega)]; simp
  have k0 : ∀ x : Bool, Ev (fun k => merkhetref01_May.j0 k x a b c d (txt h) (txt n) s t) (!x && (decide (d ≤ 2) && (decide (0 ≤ s) && decide (s < 1125899906842624) && decide (0 ≤ t) && decide (t ≤ 1125899906842624) && (nameB h && nameB n)))) := by
    intro x
    cases x with
    | true => exact Ev.step (f := fun _ => some false) (fun k => by rw [merkhetref01_May.j0, if_pos rfl]) (Ev.now _)
    | false =>
      by_cases c1 : d = 0
      · refine ev_eq (Ev.step (f := fun k => merkhetref01_May.j1 k false a b c d (txt h) (txt n) s t) (fun k => by rw [merkhetref01_May.j0, if_neg (by decide), if_pos c1]) (k1 false)) ?_
        rw [decide_eq_true (show d ≤ 2 by omega)]; rfl
      by_cases c2 : d = 1
      · refine ev_eq (Ev.step (f := fun k => merkhetref01_May.j1 k false a b c d (txt h) (txt n) s t) (fun k => by rw [merkhetref01_May.j0, if_neg (by decide), if_neg c1, if_pos c2]) (k1 false)) ?_
        rw [decide_eq_true (show d ≤ 2 by omega)]; rfl
      · refine ev_eq (Ev.step (f := fun k => merkhetref01_May.j1 k (d != 2) a b c d (txt h) (txt n) s t) (fun k => by rw [merkhetref01_May.j0, if_neg (by decide), if_neg c1, if_neg c2]) (k1 _)) ?_
        by_cases c3 : d = 2
        · rw [bne_eq_false_iff_eq.2 c3, decide_eq_true (show d ≤ 2 by omega)]; rfl
        · rw [bne_iff_ne.2 c3, decide_eq_false (show ¬ d ≤ 2 by omega)]; rfl
  unfold mayB
  by_cases c1 : a = 0
  · refine ev_eq (Ev.congr (f := fun k => merkhetref01_May.j0 k true a b c d (txt h) (txt n) s t) (fun k => by rw [merkhetref01_May.f, if_pos c1]) (k0 true)) ?_
    simp [c1]
  by_cases c2 : b = 0
  · refine ev_eq (Ev.congr (f := fun k => merkhetref01_May.j0 k true a b c d (txt h) (txt n) s t) (fun k => by rw [merkhetref01_May.f, if_neg c1, if_pos c2]) (k0 true)) ?_
    simp [c2]
  · refine ev_eq (Ev.congr (f := fun k => merkhetref01_May.j0 k (c == b) a b c d (txt h) (txt n) s t) (fun k => by rw [merkhetref01_May.f, if_neg c1, if_neg c2]) (k0 _)) ?_
    by_cases c3 : c = b
    · rw [beq_iff_eq.2 c3]; simp [c3]
    · rw [beq_eq_false_iff_ne.2 c3]; simp [c1, c2, c3, Bool.and_assoc]
end Go.Proofs.Ytdpodjgggicaoaa.CW
