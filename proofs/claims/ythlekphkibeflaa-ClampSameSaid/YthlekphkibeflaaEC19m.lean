/- What layers 1, 4, 10, 11 and 15 compute, as layer 19 needs it. -/
import Derived.Test.YthlekphkibeflaaH6
import Derived.Test.YthlekphkibeflaaEx2
import Derived.Test.YthlekphkibeflaaEx5
import Derived.Test.YthlekphkibeflaaH7
import Derived.Test.YthlekphkibeflaaEx1
import Derived.Test.YthlekphkibeflaaEx6
import Derived.Test.YthlekphkibeflaaH17
import Derived.Test.YthlekphkibeflaaH12
import Derived.Test.YthlekphkibeflaaH15
import Derived.Test.YthlekphkibeflaaEx3
import Derived.Test.YthlekphkibeflaaH22
import Derived.Test.YthlekphkibeflaaEx4
set_option linter.unusedVariables false
set_option linter.unusedSimpArgs false
namespace Go.Proofs.Ythlekphkibeflaa.E
/-! C6 -/
section
open Go.RowKit Go.Proofs.YthlekphkibeflaaW.PrintWords Go.Proofs.YthlekphkibeflaaW.PrintLast Go.Proofs.YthlekphkibeflaaW.PrintMore Go.Proofs.Ythlekphkibeflaa.H

theorem w64_ (x : Int) (h0 : 0 ≤ x) (h1 : x ≤ 9223372036854775807) : wrap64 x = x := by unfold wrap64; omega
theorem ev_eq {α : Type} {g : Nat → Option α} {r r' : α} (h : Ev g r) (e : r = r') : Ev g r' := e ▸ h
theorem span_letter_eq (c : Int) : span_letter.f c = some (letterB c) := by
  have hb : (c == 95) = decide (c = 95) := by by_cases h : c = 95 <;> simp [h]
  unfold span_letter.f letterB
  rw [hb]
  (repeat' split) <;> (congr 1; simp; omega)
theorem drop_all {m : List Nat} {i : Nat} (h : i < m.length) (p : Nat → Bool) : (m.drop i).all p = (p (m.getD i 0) && (m.drop (i + 1)).all p) := by
  rw [List.drop_eq_getElem_cons h, List.all_cons, List.getD_eq_getElem?_getD, List.getElem?_eq_getElem h]; rfl
theorem drop_any {m : List Nat} {i : Nat} (h : i < m.length) (p : Nat → Bool) : (m.drop i).any p = (p (m.getD i 0) || (m.drop (i + 1)).any p) := by
  rw [List.drop_eq_getElem_cons h, List.any_cons, List.getD_eq_getElem?_getD, List.getElem?_eq_getElem h]; rfl
theorem span_Name_l0 (m : List Nat) (hb : isB m) (hl : m.length < 4611686018427387904) : ∀ (d i : Nat), i + d = m.length → Ev (fun k => span_Name.l0 k (txt m) (m.length : Int) (i : Int)) ((m.drop i).all fun c => letterB (c : Int)) := by
  intro d
  induction d with
  | zero =>
    intro i hi
    rw [List.drop_of_length_le (by omega)]
    exact Ev.step (f := fun _ => some true) (fun k => by rw [span_Name.l0, if_neg (by omega)]) (Ev.now _)
  | succ d ih =>
    intro i hi
    have hil : i < m.length := by omega
    have e : wrap64 ((i : Int) + 1) = ((i + 1 : Nat) : Int) := w64_ _ (by omega) (by omega)
    rw [drop_all hil]
    cases hc : letterB ((m.getD i 0 : Nat) : Int) with
    | true =>
      rw [Bool.true_and]
      refine Ev.step (f := fun k => span_Name.l0 k (txt m) (m.length : Int) ((i + 1 : Nat) : Int)) (fun k => ?_) (ih (i + 1) (by omega))
      rw [span_Name.l0, if_pos (by omega), if_pos (by omega), txt_size, if_pos (by omega), bt_txt m hb i hil, span_letter_eq, Option.bind_some, hc, if_pos rfl, e]
    | false =>
      rw [Bool.false_and]
      refine Ev.step (f := fun _ => some false) (fun k => ?_) (Ev.now _)
      rw [span_Name.l0, if_pos (by omega), if_pos (by omega), txt_size, if_pos (by omega), bt_txt m hb i hil, span_letter_eq, Option.bind_some, hc, if_neg (by decide)]
theorem span_Name_ev (m : List Nat) (hb : isB m) (hl : m.length < 4611686018427387904) : Ev (fun k => span_Name.f k (txt m)) (nameB m) := by
  have key : ∀ b : Bool, Ev (fun k => span_Name.j0 k (txt m) b) (!b && m.all fun c => letterB (c : Int)) := by
    intro b
    cases b with
    | true => exact Ev.step (f := fun _ => some false) (fun k => by rw [span_Name.j0, if_pos rfl]) (Ev.now _)
    | false =>
      have := span_Name_l0 m hb hl m.length 0 (by omega)
      rw [List.drop_zero] at this
      exact Ev.step (f := fun k => span_Name.l0 k (txt m) (m.length : Int) ((0 : Nat) : Int)) (fun k => by rw [span_Name.j0, if_neg (by decide), txt_size]; rfl) this
  unfold nameB
  by_cases h1 : (m.length : Int) < 1
  · refine ev_eq (Ev.congr (f := fun k => span_Name.j0 k (txt m) true) (fun k => by rw [span_Name.f, txt_size, if_pos h1]) (key true)) ?_
    rw [decide_eq_false (by omega)]; rfl
  · refine ev_eq (Ev.congr (f := fun k => span_Name.j0 k (txt m) (decide ((m.length : Int) > 16))) (fun k => by rw [span_Name.f, txt_size, if_neg h1]) (key _)) ?_
    rw [decide_eq_true (show 1 ≤ m.length by omega), Bool.true_and]
    congr 1
    by_cases h2 : (m.length : Int) > 16
    · rw [decide_eq_true h2, decide_eq_false (by omega)]; rfl
    · rw [decide_eq_false h2, decide_eq_true (by omega)]; rfl
theorem signs_txt : (⟨#[97, 98, 99, 100, 101, 102, 103, 104, 105, 106, 107, 108, 109, 110, 111, 112, 113, 114, 115, 116, 117, 118, 119, 120, 121, 122, 48, 49, 50, 51, 52, 53, 54, 55, 56, 57, 45, 46, 95]⟩ : ByteArray) = txt signs := rfl
theorem ref_Name_l1 (m : List Nat) (hb : isB m) (i : Nat) (hi : i < m.length) (r : Bool) (e : wrap64 ((i : Int) + 1) = ((i + 1 : Nat) : Int)) (hr : Ev (fun k => merkhetref01_Name.l0 k (txt m) (txt signs) ((i + 1 : Nat) : Int)) r) : ∀ (d j : Nat) (b : Bool), j + d = 39 →
    Ev (fun k => merkhetref01_Name.l1 k (txt m) (txt signs) (i : Int) b (j : Int)) ((b || (signs.drop j).any fun s => decide ((s : Int) = ((m.getD i 0 : Nat) : Int))) && r) := by
  have h39 : signs.length = 39 := rfl
  intro d
  induction d with
  | zero =>
    intro j b hj
    rw [List.drop_of_length_le (by omega), List.any_nil, Bool.or_false]
    cases b with
    | true =>
      rw [Bool.true_and]
      refine Ev.step (f := fun k => merkhetref01_Name.l0 k (txt m) (txt signs) ((i + 1 : Nat) : Int)) (fun k => ?_) hr
      rw [merkhetref01_Name.l1, txt_size, if_neg (by omega), if_pos rfl, e]
    | false =>
      refine Ev.step (f := fun _ => some false) (fun k => ?_) (Ev.now _)
      rw [merkhetref01_Name.l1, txt_size, if_neg (by omega), if_neg (by decide)]
  | succ d ih =>
    intro j b hj
    have hjl : j < signs.length := by omega
    have e2 : wrap64 ((j : Int) + 1) = ((j + 1 : Nat) : Int) := w64_ _ (by omega) (by omega)
    rw [drop_any hjl]
    by_cases hc : (((signs.getD j 0 : Nat) : Int)) = ((m.getD i 0 : Nat) : Int)
    · rw [decide_eq_true hc, Bool.true_or, Bool.or_true]
      have := ih (j + 1) true (by omega)
      rw [Bool.true_or] at this
      refine Ev.step (f := fun k => merkhetref01_Name.l1 k (txt m) (txt signs) (i : Int) true ((j + 1 : Nat) : Int)) (fun k => ?_) this
      rw [merkhetref01_Name.l1, txt_size, if_pos (by omega), if_pos (by omega), if_pos (by omega), txt_size, if_pos (by omega), bt_txt signs signs_isB j hjl, bt_txt m hb i hi, if_pos hc, e2]
    · rw [decide_eq_false hc, Bool.false_or]
      refine Ev.step (f := fun k => merkhetref01_Name.l1 k (txt m) (txt signs) (i : Int) b ((j + 1 : Nat) : Int)) (fun k => ?_) (ih (j + 1) b (by omega))
      rw [merkhetref01_Name.l1, txt_size, if_pos (by omega), if_pos (by omega), if_pos (by omega), txt_size, if_pos (by omega), bt_txt signs signs_isB j hjl, bt_txt m hb i hi, if_neg hc, e2]
theorem ref_Name_l0 (m : List Nat) (hb : isB m) (hl : m.length < 4611686018427387904) : ∀ (d i : Nat), i + d = m.length → Ev (fun k => merkhetref01_Name.l0 k (txt m) (txt signs) (i : Int)) ((m.drop i).all fun c => letterB (c : Int)) := by
  intro d
  induction d with
  | zero =>
    intro i hi
    rw [List.drop_of_length_le (by omega)]
    exact Ev.step (f := fun _ => some true) (fun k => by rw [merkhetref01_Name.l0, txt_size, if_neg (by omega)]) (Ev.now _)
  | succ d ih =>
    intro i hi
    have hil : i < m.length := by omega
    have e : wrap64 ((i : Int) + 1) = ((i + 1 : Nat) : Int) := w64_ _ (by omega) (by omega)
    have h1 := ref_Name_l1 m hb i hil _ e (ih (i + 1) (by omega)) 39 0 false rfl
    rw [List.drop_zero, Bool.false_or, letter_signs _ (getD_lt hb i)] at h1
    rw [drop_all hil]
    refine Ev.step (f := fun k => merkhetref01_Name.l1 k (txt m) (txt signs) (i : Int) false ((0 : Nat) : Int)) (fun k => ?_) h1
    rw [merkhetref01_Name.l0, txt_size, if_pos (by omega)]; rfl
theorem ref_Name_ev (m : List Nat) (hb : isB m) (hl : m.length < 4611686018427387904) : Ev (fun k => merkhetref01_Name.f k (txt m)) (nameB m) := by
  have key : ∀ b : Bool, Ev (fun k => merkhetref01_Name.j0 k (txt m) b) (!b && m.all fun c => letterB (c : Int)) := by
    intro b
    cases b with
    | true => exact Ev.step (f := fun _ => some false) (fun k => by rw [merkhetref01_Name.j0, if_pos rfl]) (Ev.now _)
    | false =>
      have := ref_Name_l0 m hb hl m.length 0 (by omega)
      rw [List.drop_zero] at this
      exact Ev.step (f := fun k => merkhetref01_Name.l0 k (txt m) (txt signs) ((0 : Nat) : Int)) (fun k => by rw [merkhetref01_Name.j0, if_neg (by decide), signs_txt]; rfl) this
  unfold nameB
  by_cases h1 : m = []
  · subst h1
    refine ev_eq (Ev.congr (f := fun k => merkhetref01_Name.j0 k (txt []) true) (fun k => by rw [merkhetref01_Name.f, txt_toList, if_pos (show List.map UInt8.ofNat [] = [] from rfl)]) (key true)) ?_
    simp
  · have h0 : 1 ≤ m.length := by cases m with
      | nil => exact absurd rfl h1
      | cons _ _ => simp
    refine ev_eq (Ev.congr (f := fun k => merkhetref01_Name.j0 k (txt m) (decide ((m.length : Int) > 16))) (fun k => by rw [merkhetref01_Name.f, txt_toList, if_neg (by simpa using h1), txt_size]) (key _)) ?_
    rw [decide_eq_true h0, Bool.true_and]
    congr 1
    by_cases h2 : (m.length : Int) > 16
    · rw [decide_eq_true h2, decide_eq_false (by omega)]; rfl
    · rw [decide_eq_false h2, decide_eq_true (by omega)]; rfl
/-! spans -/
theorem span_May_ev (a b c d : Int) (h n : List Nat) (s t : Int) (hh : isB h) (hhl : h.length < 4611686018427387904) (hn : isB n) (hnl : n.length < 4611686018427387904) : Ev (fun k => span_May.f k a b c d (txt h) (txt n) s t) (mayB a b c d h n s t) := by
  have k1 : ∀ x : Bool, Ev (fun k => span_May.j1 k x a b c d (txt h) (txt n) s t) (!x && (nameB h && nameB n)) := by
    intro x
    cases x with
    | true => exact Ev.step (f := fun _ => some false) (fun k => by rw [span_May.j1, if_pos rfl]) (Ev.now _)
    | false =>
      refine Ev.step (f := fun k => (span_Name.f k (txt h)).bind fun t105 => (if t105 = true then ((span_Name.f k (txt n)).bind fun t106 => (some t106)) else (some false))) (fun k => by rw [span_May.j1, if_neg (by decide)]) ?_
      refine Ev.bind (span_Name_ev h hh hhl) ?_
      cases hb : nameB h with
      | true => exact Ev.congr (fun k => if_pos rfl) (Ev.bind (span_Name_ev n hn hnl) (Ev.now _))
      | false => exact Ev.congr (fun k => if_neg (by decide)) (Ev.now _)
  have k0 : ∀ x : Bool, Ev (fun k => span_May.j0 k x a b c d (txt h) (txt n) s t) (!x && (decide (0 ≤ s) && decide (s < 1125899906842624) && decide (0 ≤ t) && decide (t ≤ 1125899906842624) && (nameB h && nameB n))) := by
    intro x
    cases x with
    | true => exact Ev.step (f := fun _ => some false) (fun k => by rw [span_May.j0, if_pos rfl]) (Ev.now _)
    | false =>
      by_cases c1 : s < 0
      · refine ev_eq (Ev.step (f := fun k => span_May.j1 k true a b c d (txt h) (txt n) s t) (fun k => by rw [span_May.j0, if_neg (by decide), if_pos c1, decide_eq_true c1]) (k1 true)) ?_
        rw [decide_eq_false (by omega)]; rfl
      by_cases c2 : s ≥ 1125899906842624
      · refine ev_eq (Ev.step (f := fun k => span_May.j1 k true a b c d (txt h) (txt n) s t) (fun k => by rw [span_May.j0, if_neg (by decide), if_neg c1, if_pos c2, decide_eq_true c2]) (k1 true)) ?_
        rw [decide_eq_false (show ¬ s < 1125899906842624 by omega)]; simp
      by_cases c3 : t < 0
      · refine ev_eq (Ev.step (f := fun k => span_May.j1 k true a b c d (txt h) (txt n) s t) (fun k => by rw [span_May.j0, if_neg (by decide), if_neg c1, if_neg c2, if_pos c3, decide_eq_true c3]) (k1 true)) ?_
        rw [decide_eq_false (show ¬ 0 ≤ t by omega)]; simp
      · refine ev_eq (Ev.step (f := fun k => span_May.j1 k (decide (t > 1125899906842624)) a b c d (txt h) (txt n) s t) (fun k => by rw [span_May.j0, if_neg (by decide), if_neg c1, if_neg c2, if_neg c3]) (k1 _)) ?_
        rw [decide_eq_true (show 0 ≤ s by omega), decide_eq_true (show s < 1125899906842624 by omega), decide_eq_true (show 0 ≤ t by omega)]
        by_cases c4 : t > 1125899906842624
        · rw [decide_eq_true c4, decide_eq_false (by omega)]; simp
        · rw [decide_eq_false c4, decide_eq_true (by omega)]; simp
  unfold mayB
  by_cases c1 : a = 0
  · refine ev_eq (Ev.congr (f := fun k => span_May.j0 k true a b c d (txt h) (txt n) s t) (fun k => by rw [span_May.f, if_pos c1, beq_iff_eq.2 c1]) (k0 true)) ?_
    simp [c1]
  by_cases c2 : b = 0
  · refine ev_eq (Ev.congr (f := fun k => span_May.j0 k true a b c d (txt h) (txt n) s t) (fun k => by rw [span_May.f, if_neg c1, if_pos c2, beq_iff_eq.2 c2]) (k0 true)) ?_
    simp [c2]
  by_cases c3 : c = b
  · refine ev_eq (Ev.congr (f := fun k => span_May.j0 k true a b c d (txt h) (txt n) s t) (fun k => by rw [span_May.f, if_neg c1, if_neg c2, if_pos c3, beq_iff_eq.2 c3]) (k0 true)) ?_
    simp [c3]
  · refine ev_eq (Ev.congr (f := fun k => span_May.j0 k (decide (d > 2)) a b c d (txt h) (txt n) s t) (fun k => by rw [span_May.f, if_neg c1, if_neg c2, if_neg c3]) (k0 _)) ?_
    by_cases c4 : d > 2
    · rw [decide_eq_true c4, decide_eq_false (show ¬ d ≤ 2 by omega)]; simp
    · rw [decide_eq_false c4, decide_eq_true (show d ≤ 2 by omega)]; simp [c1, c2, c3, Bool.and_assoc]
theorem ref_May_ev (a b c d : Int) (h n : List Nat) (s t : Int) (hd : 0 ≤ d) (hh : isB h) (hhl : h.length < 4611686018427387904) (hn : isB n) (hnl : n.length < 4611686018427387904) : Ev (fun k => merkhetref01_May.f k a b c d (txt h) (txt n) s t) (mayB a b c d h n s t) := by
  have k2 : ∀ x : Bool, Ev (fun k => merkhetref01_May.j2 k x a b c d (txt h) (txt n) s t) (!x && (nameB h && nameB n)) := by
    intro x
    cases x with
    | true => exact Ev.step (f := fun _ => some false) (fun k => by rw [merkhetref01_May.j2, if_pos rfl]) (Ev.now _)
    | false =>
      refine Ev.step (f := fun k => (merkhetref01_Name.f k (txt h)).bind fun t105 => (if t105 = true then ((merkhetref01_Name.f k (txt n)).bind fun t106 => (some t106)) else (some false))) (fun k => by rw [merkhetref01_May.j2, if_neg (by decide)]) ?_
      refine Ev.bind (ref_Name_ev h hh hhl) ?_
      cases hb : nameB h with
      | true => exact Ev.congr (fun k => if_pos rfl) (Ev.bind (ref_Name_ev n hn hnl) (Ev.now _))
      | false => exact Ev.congr (fun k => if_neg (by decide)) (Ev.now _)
  have k1 : ∀ x : Bool, Ev (fun k => merkhetref01_May.j1 k x a b c d (txt h) (txt n) s t) (!x && (decide (0 ≤ s) && decide (s < 1125899906842624) && decide (0 ≤ t) && decide (t ≤ 1125899906842624) && (nameB h && nameB n))) := by
    intro x
    cases x with
    | true => exact Ev.step (f := fun _ => some false) (fun k => by rw [merkhetref01_May.j1, if_pos rfl]) (Ev.now _)
    | false =>
      by_cases c1 : s < 0
      · refine ev_eq (Ev.step (f := fun k => merkhetref01_May.j2 k true a b c d (txt h) (txt n) s t) (fun k => by rw [merkhetref01_May.j1, if_neg (by decide), if_pos c1]) (k2 true)) ?_
        rw [decide_eq_false (by omega)]; rfl
      by_cases c2 : s > 1125899906842623
      · refine ev_eq (Ev.step (f := fun k => merkhetref01_May.j2 k true a b c d (txt h) (txt n) s t) (fun k => by rw [merkhetref01_May.j1, if_neg (by decide), if_neg c1, if_pos c2]) (k2 true)) ?_
        rw [decide_eq_false (show ¬ s < 1125899906842624 by omega)]; simp
      by_cases c3 : t < 0
      · refine ev_eq (Ev.step (f := fun k => merkhetref01_May.j2 k true a b c d (txt h) (txt n) s t) (fun k => by rw [merkhetref01_May.j1, if_neg (by decide), if_neg c1, if_neg c2, if_pos c3]) (k2 true)) ?_
        rw [decide_eq_false (show ¬ 0 ≤ t by omega)]; simp
      · refine ev_eq (Ev.step (f := fun k => merkhetref01_May.j2 k (decide (t > 1125899906842624)) a b c d (txt h) (txt n) s t) (fun k => by rw [merkhetref01_May.j1, if_neg (by decide), if_neg c1, if_neg c2, if_neg c3]) (k2 _)) ?_
        rw [decide_eq_true (show 0 ≤ s by omega), decide_eq_true (show s < 1125899906842624 by omega), decide_eq_true (show 0 ≤ t by omega)]
        by_cases c4 : t > 1125899906842624
        · rw [decide_eq_true c4, decide_eq_false (by omega)]; simp
        · rw [decide_eq_false c4, decide_eq_true (by omega)]; simp
  have k0 : ∀ x : Bool, Ev (fun k => merkhetref01_May.j0 k x a b c d (txt h) (txt n) s t) (!x && (decide (d ≤ 2) && (decide (0 ≤ s) && decide (s < 1125899906842624) && decide (0 ≤ t) && decide (t ≤ 1125899906842624) && (nameB h && nameB n)))) := by
    intro x
    cases x with
    | true => exact Ev.step (f := fun _ => some false) (fun k => by rw [merkhetref01_May.j0, if_pos rfl]) (Ev.now _)
    | false =>
      by_cases c1 : d = 0
      · refine ev_eq (Ev.step (f := fun k => merkhetref01_May.j1 k false a b c d (txt h) (txt n) s t) (fun k => by rw [merkhetref01_May.j0, if_neg (by decide), if_pos c1]) (k1 false)) ?_
        rw [decide_eq_true (show d ≤ 2 by omega)]; rfl
      by_cases c2 : d = 1
      · refine ev_eq (Ev.step (f := fun k => merkhetref01_May.j1 k false a b c d (txt h) (txt n) s t) (fun k => by rw [merkhetref01_May.j0, if_neg (by decide), if_neg c1, if_pos c2]) (k1 false)) ?_
        rw [decide_eq_true (show d ≤ 2 by omega)]; rfl
      · refine ev_eq (Ev.step (f := fun k => merkhetref01_May.j1 k (d != 2) a b c d (txt h) (txt n) s t) (fun k => by rw [merkhetref01_May.j0, if_neg (by decide), if_neg c1, if_neg c2]) (k1 _)) ?_
        by_cases c3 : d = 2
        · rw [bne_eq_false_iff_eq.2 c3, decide_eq_true (show d ≤ 2 by omega)]; rfl
        · rw [bne_iff_ne.2 c3, decide_eq_false (show ¬ d ≤ 2 by omega)]; rfl
  unfold mayB
  by_cases c1 : a = 0
  · refine ev_eq (Ev.congr (f := fun k => merkhetref01_May.j0 k true a b c d (txt h) (txt n) s t) (fun k => by rw [merkhetref01_May.f, if_pos c1]) (k0 true)) ?_
    simp [c1]
  by_cases c2 : b = 0
  · refine ev_eq (Ev.congr (f := fun k => merkhetref01_May.j0 k true a b c d (txt h) (txt n) s t) (fun k => by rw [merkhetref01_May.f, if_neg c1, if_pos c2]) (k0 true)) ?_
    simp [c2]
  · refine ev_eq (Ev.congr (f := fun k => merkhetref01_May.j0 k (c == b) a b c d (txt h) (txt n) s t) (fun k => by rw [merkhetref01_May.f, if_neg c1, if_neg c2]) (k0 _)) ?_
    by_cases c3 : c = b
    · rw [beq_iff_eq.2 c3]; simp [c3]
    · rw [beq_eq_false_iff_ne.2 c3]; simp [c1, c2, c3, Bool.and_assoc]
end
/-! C7k -/
section
open Go.RowKit Go.Proofs.YthlekphkibeflaaW.PrintWords Go.Proofs.YthlekphkibeflaaW.PrintLast Go.Proofs.YthlekphkibeflaaW.PrintMore Go.Proofs.Ythlekphkibeflaa.H

/-- The print's span of a plain one. -/
def mkS (p : PS) : S34 := ⟨(p.a : Int), (p.b : Int), (p.c : Int), (p.d : Int), txt p.h, txt p.n, p.s, p.t⟩
theorem rd_mkS (l : List PS) (i : Nat) (hi : i < l.length) : rd_T34 (l.map mkS) (i : Int) = mkS l[i] := by
  show (l.map mkS).getD _ _ = _
  simp [List.getD_eq_getElem?_getD, List.getElem?_eq_getElem hi]
theorem mayP_ev (p : PS) (g : p.good) (hl : p.h.length < 4611686018427387904) (nl : p.n.length < 4611686018427387904) : Ev (fun k => span_May.f k (mkS p).f0 (mkS p).f1 (mkS p).f2 (mkS p).f3 (mkS p).f4 (mkS p).f5 (mkS p).f6 (mkS p).f7) (mayP p) :=
  span_May_ev _ _ _ _ _ _ _ _ g.h hl g.n nl
theorem plain_spans (l0 : List S34) (h : ∀ x0_ ∈ l0, ((Lit.int .u64 x0_.f0).wf = true ∧ (Lit.int .u64 x0_.f1).wf = true ∧ (Lit.int .u64 x0_.f2).wf = true ∧ (Lit.int .u8 x0_.f3).wf = true ∧ x0_.f4.size ≤ maxLen ∧ x0_.f5.size ≤ maxLen ∧ (Lit.int .i64 x0_.f6).wf = true ∧ (Lit.int .i64 x0_.f7).wf = true)) :
    ∃ l : List PS, l0 = l.map mkS ∧ ∀ p ∈ l, p.good := by
  induction l0 with
  | nil => exact ⟨[], rfl, fun p hp => absurd hp (by simp)⟩
  | cons x r ih =>
    obtain ⟨l, rfl, hg⟩ := ih (fun y hy => h y (by simp [hy]))
    obtain ⟨h0, h1, h2, h3, h4, h5, h6, h7⟩ := h x (by simp)
    obtain ⟨f0, f1, f2, f3, f4, f5, f6, f7⟩ := x
    obtain ⟨hh, rfl, hhb⟩ := txt_of f4
    obtain ⟨nn, rfl, nnb⟩ := txt_of f5
    simp [Lit.wf, IntKind.min, IntKind.max, IntKind.signed, IntKind.bits, txt_size, maxLen] at h0 h1 h2 h3 h4 h5 h6 h7
    obtain ⟨a, rfl⟩ := Int.eq_ofNat_of_zero_le h0.1
    obtain ⟨b, rfl⟩ := Int.eq_ofNat_of_zero_le h1.1
    obtain ⟨c, rfl⟩ := Int.eq_ofNat_of_zero_le h2.1
    obtain ⟨d, rfl⟩ := Int.eq_ofNat_of_zero_le h3.1
    refine ⟨⟨a, b, c, d, hh, nn, f6, f7⟩ :: l, rfl, fun p hp => ?_⟩
    rcases List.mem_cons.1 hp with rfl | hp
    · exact ⟨by show a < _; omega, by show b < _; omega, by show c < _; omega, by show d < _; omega, hhb, by show hh.length ≤ _; omega, nnb, by show nn.length ≤ _; omega, by show _ ≤ f6; omega, by show f6 < _; omega, by show _ ≤ f7; omega, by show f7 < _; omega⟩
    · exact hg p hp
end
/-! C7q -/
section
open Go.RowKit Go.Proofs.YthlekphkibeflaaW.PrintWords Go.Proofs.YthlekphkibeflaaW.PrintLast Go.Proofs.YthlekphkibeflaaW.PrintMore Go.Proofs.Ythlekphkibeflaa.H

/-- More than is gone through? -/
def greatP (l : List PS) : Bool := decide (60 < l.length) || l.any fun p => decide (100 < p.h.length) || decide (100 < p.n.length)
theorem great_l0 (l : List PS) (hl : l.length ≤ 60) : ∀ (d i : Nat), i + d = l.length → Ev (fun k => merkhetlaw04_Great.l0 k (l.map mkS) (l.length : Int) (i : Int)) ((l.drop i).any fun p => decide (100 < p.h.length) || decide (100 < p.n.length)) := by
  intro d
  induction d with
  | zero =>
    intro i hi
    rw [List.drop_of_length_le (by omega)]
    exact Ev.step (f := fun _ => some false) (fun k => by rw [merkhetlaw04_Great.l0, if_neg (by omega)]) (Ev.now _)
  | succ d ih =>
    intro i hi
    have hil : i < l.length := by omega
    have e : wrap64 ((i : Int) + 1) = ((i + 1 : Nat) : Int) := w64_ _ (by omega) (by omega)
    have e4 : (((mkS l[i]).f4).size : Int) = (l[i].h.length : Int) := by show ((txt l[i].h).size : Int) = _; rw [txt_size]
    have e5 : (((mkS l[i]).f5).size : Int) = (l[i].n.length : Int) := by show ((txt l[i].n).size : Int) = _; rw [txt_size]
    rw [List.drop_eq_getElem_cons hil, List.any_cons]
    by_cases c1 : (l[i].h.length : Int) > 100
    · rw [decide_eq_true (show 100 < l[i].h.length by omega), Bool.true_or, Bool.true_or]
      exact Ev.step (f := fun _ => some true) (fun k => by rw [merkhetlaw04_Great.l0, if_pos (by omega), if_pos (by omega), if_pos (by rw [List.length_map]; omega), rd_mkS l i hil, e4, if_pos c1]) (Ev.now _)
    · rw [decide_eq_false (show ¬ 100 < l[i].h.length by omega), Bool.false_or]
      by_cases c2 : (l[i].n.length : Int) > 100
      · rw [decide_eq_true (show 100 < l[i].n.length by omega), Bool.true_or]
        exact Ev.step (f := fun _ => some true) (fun k => by rw [merkhetlaw04_Great.l0, if_pos (by omega), if_pos (by omega), if_pos (by rw [List.length_map]; omega), rd_mkS l i hil, e4, if_neg c1, e5, if_pos c2]) (Ev.now _)
      · rw [decide_eq_false (show ¬ 100 < l[i].n.length by omega), Bool.false_or]
        exact Ev.step (f := fun k => merkhetlaw04_Great.l0 k (l.map mkS) (l.length : Int) ((i + 1 : Nat) : Int)) (fun k => by rw [merkhetlaw04_Great.l0, if_pos (by omega), if_pos (by omega), if_pos (by rw [List.length_map]; omega), rd_mkS l i hil, e4, if_neg c1, e5, if_neg c2, e]) (ih (i + 1) (by omega))
theorem great_ev (l : List PS) : Ev (fun k => merkhetlaw04_Great.f k (l.map mkS)) (greatP l) := by
  unfold greatP
  by_cases h : (l.length : Int) > 60
  · rw [decide_eq_true (show 60 < l.length by omega), Bool.true_or]
    exact Ev.congr (f := fun _ => some true) (fun k => by rw [merkhetlaw04_Great.f, List.length_map, if_pos h]) (Ev.now _)
  · rw [decide_eq_false (show ¬ 60 < l.length by omega), Bool.false_or]
    have := great_l0 l (by omega) l.length 0 (by omega)
    rw [List.drop_zero] at this
    exact Ev.congr (f := fun k => merkhetlaw04_Great.l0 k (l.map mkS) (l.length : Int) ((0 : Nat) : Int)) (fun k => by rw [merkhetlaw04_Great.f, List.length_map, if_neg h]; rfl) this
theorem great_small {l : List PS} (h : greatP l = false) : l.length ≤ 60 ∧ ∀ p ∈ l, p.h.length ≤ 100 ∧ p.n.length ≤ 100 := by
  unfold greatP at h
  rw [Bool.or_eq_false_iff] at h
  refine ⟨by have := h.1; simp at this; exact this, fun p hp => ?_⟩
  have h2 := List.any_eq_false.1 h.2 p hp
  simp at h2
  exact h2
end
/-! C10b -/
section
open Go.RowKit Go.Proofs.Ythlekphkibeflaa.H Go.Proofs.YthlekphkibeflaaW.PrintWords Go.Proofs.YthlekphkibeflaaW.PrintLast Go.Proofs.YthlekphkibeflaaW.PrintMore
theorem up_l0 {p : List Int} (hp : okP p) (m : Nat) (hm : m < 9000000000000000000) : ∀ (d i : Nat) (a : Int), m - i = d → i ≤ m → -1 ≤ a → a < (p.length : Int) → Ev (fun k => merkhetref10_up.l0 k p a (m : Int) (i : Int)) (up p (m - i) a) := by
  intro d
  induction d with
  | zero =>
    intro i a hd hi h0 h1
    rw [hd]
    exact Ev.step_ (f := fun _ => some a) (fun k => by rw [merkhetref10_up.l0, if_neg (by omega)]) (Ev.now _)
  | succ d ih =>
    intro i a hd hi h0 h1
    by_cases c : 0 ≤ a
    · have hx := okP_nx hp h0 h1
      have h_ := ih (i + 1) (nx p a) (by omega) (by omega) hx.1 hx.2
      rw [show m - i = (m - (i + 1)) + 1 by omega]
      refine Ev.step_ (f := fun k => merkhetref10_up.l0 k p (nx p a) (m : Int) ((i + 1 : Nat) : Int)) (fun k => ?_) h_
      rw [merkhetref10_up.l0, if_pos (by omega), if_pos c, if_pos c, if_pos h1, w64s i (by omega)]
      rw [show nx p a = rd p a by unfold nx rd; rw [if_pos c]]
    · rw [up_neg _ _ _ (by omega)]
      exact Ev.step_ (f := fun _ => some a) (fun k => by rw [merkhetref10_up.l0, if_pos (by omega), if_neg (by omega)]) (Ev.now _)
theorem up_ev {p : List Int} (hp : okP p) (m : Nat) (hm : m < 9000000000000000000) (a : Int) (h0 : -1 ≤ a) (h1 : a < (p.length : Int)) : Ev (fun k => merkhetref10_up.f k p a (m : Int)) (up p m a) := up_l0 hp m hm m 0 a rfl (Nat.zero_le _) h0 h1
end
/-! C10e -/
section
open Go.RowKit Go.Proofs.Ythlekphkibeflaa.H Go.Proofs.YthlekphkibeflaaW.PrintWords Go.Proofs.YthlekphkibeflaaW.PrintLast Go.Proofs.YthlekphkibeflaaW.PrintMore
open Classical in
theorem parentRight_ev (p : List Int) (hn : p.length ≤ 1000000) : Ev (fun k => parent_Right.f k p) (decide (okP p ∧ ∀ a, a < (p.length : Int) → ¬ cyc p a)) := by
  by_cases h : okP p
  · obtain ⟨b, hb, hiff⟩ := right_plain h
    refine Ev.congr (fun k => ?_) (show Ev (fun k => (cyclesF k p).map (fun fs => fs.isEmpty)) _ from ?_)
    · unfold parent_Right.f
      rw [if_pos hn, if_pos (okB_iff.2 h)]
    · rw [show decide (okP p ∧ ∀ a, a < (p.length : Int) → ¬ cyc p a) = b by
        rw [Bool.eq_iff_iff, decide_eq_true_eq, hiff]
        exact ⟨fun h => h.2, fun h2 => ⟨h, h2⟩⟩]
      exact hb
  · rw [decide_eq_false (fun h2 => h h2.1)]
    refine Ev.congr (f := fun _ => some false) (fun k => ?_) (Ev.now _)
    unfold parent_Right.f
    rw [if_pos hn, if_neg (fun h2 => h (okB_iff.1 h2))]
end
/-! C10g -/
section
open Go.RowKit Go.Proofs.Ythlekphkibeflaa.H Go.Proofs.YthlekphkibeflaaW.PrintWords Go.Proofs.YthlekphkibeflaaW.PrintLast Go.Proofs.YthlekphkibeflaaW.PrintMore
open Classical in
theorem refRight_l1 {p : List Int} (hp : okP p) (hn : p.length ≤ 1000000) : ∀ (d i : Nat), p.length - i = d → i ≤ p.length → (∀ j : Nat, j < i → up p (p.length + 1) (j : Int) < 0) → Ev (fun k => merkhetref10_Right.l1 k p (i : Int)) (decide (∀ a, a < (p.length : Int) → ¬ cyc p a)) := by
  intro d
  induction d with
  | zero =>
    intro i hd hi hall
    rw [decide_eq_true (p := ∀ a, a < (p.length : Int) → ¬ cyc p a) (fun a ha hc => by
      have h0 := hc.1
      have h1 := hall a.toNat (by omega)
      rw [Int.toNat_of_nonneg h0] at h1
      have := cyc_pos hc (p.length + 1)
      omega)]
    exact Ev.step_ (f := fun _ => some true) (fun k => by rw [merkhetref10_Right.l1, if_neg (by omega)]) (Ev.now _)
  | succ d ih =>
    intro i hd hi hall
    have hw : wrap64 ((p.length : Int) + 1) = ((p.length + 1 : Nat) : Int) := by unfold wrap64; omega
    refine Ev.step_ (f := fun k => (merkhetref10_up.f k p (i : Int) ((p.length + 1 : Nat) : Int)).bind fun t => if t ≥ 0 then some false else merkhetref10_Right.l1 k p (wrap64 ((i : Int) + 1))) (fun k => by rw [merkhetref10_Right.l1, if_pos (by omega), hw]) ?_
    refine Ev.bind (up_ev hp (p.length + 1) (by omega) (i : Int) (by omega) (by omega)) ?_
    by_cases c : 0 ≤ up p (p.length + 1) (i : Int)
    · rw [decide_eq_false (p := ∀ a, a < (p.length : Int) → ¬ cyc p a) (fun h => by
        have h1 := up_ends_lt hp h (a := (i : Int)) (by omega)
        have h2 := up_pos_le (p := p) (a := (i : Int)) (i := p.length) (j := p.length + 1) (by omega) c
        omega)]
      exact Ev.congr (f := fun _ => some false) (fun k => by rw [if_pos c]) (Ev.now _)
    · refine Ev.congr (f := fun k => merkhetref10_Right.l1 k p ((i + 1 : Nat) : Int)) (fun k => by rw [if_neg c, w64s i (by omega)]) ?_
      exact ih (i + 1) (by omega) (by omega) (fun j hj => by
        rcases Nat.lt_or_ge j i with h | h
        · exact hall j h
        · have h0 : j = i := by omega
          rw [h0]; omega)
open Classical in
theorem refRight_l0 {p : List Int} (hn : p.length ≤ 1000000) : ∀ (d i : Nat), p.length - i = d → i ≤ p.length → (∀ j, j < i → -1 ≤ p.getD j 0 ∧ p.getD j 0 < (p.length : Int)) → Ev (fun k => merkhetref10_Right.l0 k p (i : Int)) (decide (okP p ∧ ∀ a, a < (p.length : Int) → ¬ cyc p a)) := by
  intro d
  induction d with
  | zero =>
    intro i hd hi hall
    have hp : okP p := okB_iff.1 (okB_true (fun j hj => hall j (by omega)))
    have h_ := refRight_l1 hp hn p.length 0 rfl (Nat.zero_le _) (fun j hj => absurd hj (Nat.not_lt_zero _))
    rw [show decide (okP p ∧ ∀ a, a < (p.length : Int) → ¬ cyc p a) = decide (∀ a, a < (p.length : Int) → ¬ cyc p a) by rw [decide_eq_decide]; exact ⟨fun h => h.2, fun h => ⟨hp, h⟩⟩]
    exact Ev.step_ (fun k => by rw [merkhetref10_Right.l0, if_neg (by omega)]; rfl) h_
  | succ d ih =>
    intro i hd hi hall
    have hlt : i < p.length := by omega
    by_cases c : -1 ≤ p.getD i 0 ∧ p.getD i 0 < (p.length : Int)
    · refine Ev.step_ (fun k => ?_) (ih (i + 1) (by omega) (by omega) (fun j hj => by
        rcases Nat.lt_or_ge j i with h | h
        · exact hall j h
        · have h0 : j = i := by omega
          rw [h0]; exact c))
      rw [merkhetref10_Right.l0, if_pos (by omega), if_pos (by omega), rdn, if_neg (by omega), if_neg (by omega), w64s i (by omega)]
    · rw [decide_eq_false (fun h => by
        have := okB_false hlt c
        rw [okB_iff.2 h.1] at this
        cases this)]
      by_cases c1 : p.getD i 0 < -1
      · exact Ev.step_ (f := fun _ => some false) (fun k => by rw [merkhetref10_Right.l0, if_pos (by omega), if_pos (by omega), rdn, if_pos c1]) (Ev.now _)
      · exact Ev.step_ (f := fun _ => some false) (fun k => by rw [merkhetref10_Right.l0, if_pos (by omega), if_pos (by omega), rdn, if_neg c1, if_pos (by omega)]) (Ev.now _)
open Classical in
theorem refRight_ev (p : List Int) (hn : p.length ≤ 1000000) : Ev (fun k => merkhetref10_Right.f k p) (decide (okP p ∧ ∀ a, a < (p.length : Int) → ¬ cyc p a)) :=
  refRight_l0 hn p.length 0 rfl (Nat.zero_le _) (fun j hj => absurd hj (Nat.not_lt_zero _))
end
/-! C11s -/
section
open Go.RowKit Go.Proofs.Ythlekphkibeflaa.H Go.Proofs.YthlekphkibeflaaW.PrintWords Go.Proofs.YthlekphkibeflaaW.PrintLast Go.Proofs.YthlekphkibeflaaW.PrintMore
theorem w64k (i : Nat) (h : i < 9000000000000000000) : wrap64 ((i : Int) + 1) = ((i + 1 : Nat) : Int) := by unfold wrap64; omega
theorem rdk (l : List Int) (i : Nat) : rd l (i : Int) = l.getD i 0 := by unfold rd; rw [Int.toNat_natCast]
theorem ev_eqk {α : Type} {g : Nat → Option α} {r r' : α} (h : Ev g r) (e : r = r') : Ev g r' := e ▸ h
def forestP (p : List Int) : Prop := okP p ∧ ∀ a, a < (p.length : Int) → ¬ cyc p a
def rowOf (p : List Int) : List It3 := (rowK p (p.length + 1) (-1) 0).getD []
theorem rowOf_eq {p : List Int} (h : forestP p) (hl : p.length ≤ 1000000) : rowK p (p.length + 1) (-1) 0 = some (rowOf p) := by
  obtain ⟨r, hr⟩ := row_some h.1 h.2 hl
  unfold rowOf
  rw [hr]; rfl
open Classical in
noncomputable def itemsP (p : List Int) : List S42 := if forestP p then (rowOf p).map forest_Row_it else []
open Classical in
theorem forestRow_ev (p : List Int) (hl : p.length ≤ 1000000) : Ev (fun k => forest_Row.f k p) (itemsP p) := by
  unfold forest_Row.f itemsP
  refine Ev.bind (parentRight_ev p hl) ?_
  by_cases h : forestP p
  · rw [if_pos h]
    refine Ev.congr (fun k => by rw [decide_eq_true (show okP p ∧ ∀ a, a < (p.length : Int) → ¬ cyc p a from h), if_pos rfl, if_pos ⟨hl, okB_iff.2 h.1⟩]) ?_
    refine Ev.bind (Ev.of (fun k => rowK_mono p k (-1) 0) (rowOf_eq h hl)) ?_
    exact Ev.congr (f := fun _ => some ((rowOf p).map forest_Row_it)) (fun k => by rw [if_pos (by rw [row_length h.1 h.2 (rowOf_eq h hl)]; exact hl)]) (Ev.now _)
  · rw [if_neg h]
    exact Ev.congr (f := fun _ => some ([] : List S42)) (fun k => by rw [decide_eq_false (show ¬ (okP p ∧ ∀ a, a < (p.length : Int) → ¬ cyc p a) from h), if_neg Bool.false_ne_true]) (Ev.now _)
open Classical in
theorem itemsP_length (p : List Int) (hl : p.length ≤ 1000000) : (itemsP p).length ≤ p.length := by
  unfold itemsP
  split
  · rename_i h
    rw [List.length_map, row_length h.1 h.2 (rowOf_eq h hl)]; exact Nat.le_refl _
  · simp
end
/-! C15z -/
section
open Go.RowKit Go.Proofs.Ythlekphkibeflaa.H Go.Proofs.YthlekphkibeflaaW.PrintWords Go.Proofs.YthlekphkibeflaaW.PrintLast Go.Proofs.YthlekphkibeflaaW.PrintMore
theorem w64t (i : Nat) (h : i < 9000000000000000000) : wrap64 ((i : Int) + 1) = ((i + 1 : Nat) : Int) := by unfold wrap64; omega
theorem rdt (l : List Int) (i : Nat) : rd l (i : Int) = l.getD i 0 := by unfold rd; rw [Int.toNat_natCast]
theorem ev_step {α : Type} {g f : Nat → Option α} {r : α} (h : ∀ k, g (k + 1) = f k) (hf : Ev f r) : Ev g r := Ev.step h hf
end
/-! C15s -/
section
open Go.RowKit Go.Proofs.Ythlekphkibeflaa.H Go.Proofs.YthlekphkibeflaaW.PrintWords Go.Proofs.YthlekphkibeflaaW.PrintLast Go.Proofs.YthlekphkibeflaaW.PrintMore
theorem same15_l0 (a b : List Int) (hl : a.length = b.length) (hn : a.length < 9000000000000000000) : ∀ (d i : Nat), a.length - i = d → i ≤ a.length → Ev (fun k => merkhetref15_Same.l0 k a b (i : Int)) (decide (a.drop i = b.drop i)) := by
  intro d
  induction d with
  | zero =>
    intro i hd hi
    refine ev_step (f := fun _ => some true) (fun k => by rw [merkhetref15_Same.l0, if_neg (by omega)]) ?_
    rw [List.drop_of_length_le (by omega), List.drop_of_length_le (by omega)]
    exact Ev.now _
  | succ d ih =>
    intro i hd hi
    have hlt : i < a.length := by omega
    have e1 : a.drop i = a.getD i 0 :: a.drop (i + 1) := by rw [List.drop_eq_getElem_cons hlt, List.getD_eq_getElem?_getD, List.getElem?_eq_getElem hlt]; rfl
    have e2 : b.drop i = b.getD i 0 :: b.drop (i + 1) := by rw [List.drop_eq_getElem_cons (by omega), List.getD_eq_getElem?_getD, List.getElem?_eq_getElem (by omega)]; rfl
    by_cases c : a.getD i 0 = b.getD i 0
    · refine ev_step (f := fun k => merkhetref15_Same.l0 k a b ((i + 1 : Nat) : Int)) (fun k => by rw [merkhetref15_Same.l0, if_pos (by omega), if_pos (by omega), if_pos (by omega), rdt, rdt, if_pos c, w64t i (by omega)]) ?_
      have h_ := ih (i + 1) (by omega) (by omega)
      rw [show decide (a.drop i = b.drop i) = decide (a.drop (i + 1) = b.drop (i + 1)) by rw [e1, e2, c]; simp]
      exact h_
    · refine ev_step (f := fun _ => some false) (fun k => by rw [merkhetref15_Same.l0, if_pos (by omega), if_pos (by omega), if_pos (by omega), rdt, rdt, if_neg c]) ?_
      rw [show decide (a.drop i = b.drop i) = false from decide_eq_false (fun e => by rw [e1, e2] at e; exact c (List.cons.inj e).1)]
      exact Ev.now _
theorem same15_ev (a b : List Int) (hn : a.length < 9000000000000000000) : Ev (fun k => merkhetref15_Same.f k a b) (decide (a = b)) := by
  unfold merkhetref15_Same.f
  by_cases hl : a.length = b.length
  · have h_ := same15_l0 a b hl hn a.length 0 rfl (Nat.zero_le _)
    refine Ev.congr (f := fun k => merkhetref15_Same.l0 k a b ((0 : Nat) : Int)) (fun k => by rw [if_pos (by omega)]; rfl) ?_
    simpa using h_
  · refine Ev.congr (f := fun _ => some false) (fun k => by rw [if_neg (by omega)]) ?_
    rw [show decide (a = b) = false from decide_eq_false (fun e => hl (by rw [e]))]
    exact Ev.now _
end
end Go.Proofs.Ythlekphkibeflaa.E
