/- Layer 12's words: whether a span may be; whether a batch is more than is gone through; a span by its place; lead and rest. -/
import Derived.Test.YtcgjplolehhpjaaSC6
import Derived.Test.YtcgjplolehhpjaaSx2
import Derived.Test.YtcgjplolehhpjaaSx4
set_option linter.unusedVariables false
namespace Go.Proofs.Ytcgjplolehhpjaa.S
open Go.RowKit Go.Proofs.Ytcgjplolehhpjaa.H Go.Proofs.YtcgjplolehhpjaaW.PrintWords Go.Proofs.YtcgjplolehhpjaaW.PrintLast Go.Proofs.YtcgjplolehhpjaaW.PrintMore
/-- A span's values are in range, its texts are short. -/
structure fineS (s : S37) : Prop where
  k : 0 ≤ s.f3
  h : s.f4.size ≤ 100
  n : s.f5.size ≤ 100
  s0 : -9223372036854775808 ≤ s.f6
  s1 : s.f6 ≤ 9223372036854775807
  t0 : -9223372036854775808 ≤ s.f7
  t1 : s.f7 ≤ 9223372036854775807
open Classical in
noncomputable def mayS (s : S37) : Bool := decide (Ev (fun k => span_May.f k s.f0 s.f1 s.f2 s.f3 s.f4 s.f5 s.f6 s.f7) true)
theorem ev_one {α : Type} {g : Nat → Option α} {r r' : α} (h : Ev g r) (h' : Ev g r') : r = r' := by
  obtain ⟨K, hK⟩ := h
  obtain ⟨L, hL⟩ := h'
  have h1 := hK (K + L) (by omega)
  rw [hL (K + L) (by omega)] at h1
  exact (Option.some.inj h1).symm
theorem may_ex (s : S37) (h3 : 0 ≤ s.f3) (h4 : s.f4.size ≤ 100) (h5 : s.f5.size ≤ 100) : ∃ b, Ev (fun k => span_May.f k s.f0 s.f1 s.f2 s.f3 s.f4 s.f5 s.f6 s.f7) b ∧ Ev (fun k => merkhetref01_May.f k s.f0 s.f1 s.f2 s.f3 s.f4 s.f5 s.f6 s.f7) b ∧ (b = true → 0 ≤ s.f6 ∧ s.f6 < 1125899906842624 ∧ 0 ≤ s.f7 ∧ s.f7 ≤ 1125899906842624) := by
  obtain ⟨s0, s1, s2, s3, s4, s5, s6, s7⟩ := s
  obtain ⟨h, rfl, hb⟩ := txt_of s4
  obtain ⟨n, rfl, nb⟩ := txt_of s5
  simp only [txt_size] at h4 h5
  refine ⟨_, span_May_ev s0 s1 s2 s3 h n s6 s7 hb (by omega) nb (by omega), ref_May_ev s0 s1 s2 s3 h n s6 s7 h3 hb (by omega) nb (by omega), fun hm => ?_⟩
  show 0 ≤ s6 ∧ s6 < 1125899906842624 ∧ 0 ≤ s7 ∧ s7 ≤ 1125899906842624
  unfold mayB at hm
  simp only [Bool.and_eq_true, decide_eq_true_eq] at hm
  omega
open Classical in
theorem may_ev {s : S37} (f : fineS s) : Ev (fun k => span_May.f k s.f0 s.f1 s.f2 s.f3 s.f4 s.f5 s.f6 s.f7) (mayS s) := by
  obtain ⟨b, h1, _, _⟩ := may_ex s f.k f.h f.n
  unfold mayS
  cases b with
  | true => rw [decide_eq_true h1]; exact h1
  | false => rw [decide_eq_false (fun h => by have := ev_one h1 h; cases this)]; exact h1
theorem refmay_ev {s : S37} (f : fineS s) : Ev (fun k => merkhetref01_May.f k s.f0 s.f1 s.f2 s.f3 s.f4 s.f5 s.f6 s.f7) (mayS s) := by
  obtain ⟨b, h1, h2, _⟩ := may_ex s f.k f.h f.n
  rw [ev_one (may_ev f) h1]
  exact h2
theorem may_in {s : S37} (f : fineS s) (h : mayS s = true) : 0 ≤ s.f6 ∧ s.f6 < 1125899906842624 ∧ 0 ≤ s.f7 ∧ s.f7 ≤ 1125899906842624 := by
  obtain ⟨b, h1, _, h3⟩ := may_ex s f.k f.h f.n
  exact h3 (by rw [← ev_one (may_ev f) h1]; exact h)
def greatS (l : List S37) : Bool := decide (60 < l.length) || l.any fun s => decide (100 < s.f4.size) || decide (100 < s.f5.size)
theorem rdS (l : List S37) (i : Nat) (hi : i < l.length) : rd_T37 l (i : Int) = l[i] := by
  show l.getD _ _ = _
  rw [Int.toNat_natCast, List.getD_eq_getElem?_getD, List.getElem?_eq_getElem hi]; rfl
theorem greatS_l0 (l : List S37) (hl : l.length ≤ 60) : ∀ (d i : Nat), l.length - i = d → i ≤ l.length → Ev (fun k => merkhetlaw04_Great.l0 k l (l.length : Int) (i : Int)) ((l.drop i).any fun s => decide (100 < s.f4.size) || decide (100 < s.f5.size)) := by
  intro d
  induction d with
  | zero =>
    intro i hd hi
    rw [List.drop_of_length_le (by omega)]
    exact Ev.step (f := fun _ => some false) (fun k => by rw [merkhetlaw04_Great.l0, if_neg (by omega)]) (Ev.now _)
  | succ d ih =>
    intro i hd hi
    have hlt : i < l.length := by omega
    rw [List.drop_eq_getElem_cons hlt, List.any_cons]
    by_cases c1 : 100 < l[i].f4.size
    · rw [decide_eq_true c1]
      exact Ev.step (f := fun _ => some true) (fun k => by rw [merkhetlaw04_Great.l0, if_pos (by omega), if_pos (by omega), if_pos (by omega), rdS l i hlt, if_pos (by omega)]) (Ev.now _)
    · by_cases c2 : 100 < l[i].f5.size
      · rw [decide_eq_true c2, Bool.or_true, Bool.true_or]
        exact Ev.step (f := fun _ => some true) (fun k => by rw [merkhetlaw04_Great.l0, if_pos (by omega), if_pos (by omega), if_pos (by omega), rdS l i hlt, if_neg (by omega), if_pos (by omega)]) (Ev.now _)
      · rw [decide_eq_false c1, decide_eq_false c2, Bool.false_or, Bool.false_or]
        refine Ev.step (fun k => ?_) (ih (i + 1) (by omega) (by omega))
        rw [merkhetlaw04_Great.l0, if_pos (by omega), if_pos (by omega), if_pos (by omega), rdS l i hlt, if_neg (by omega), if_neg (by omega), w64_ _ (by omega) (by omega)]
        rfl
theorem greatS_ev (l : List S37) : Ev (fun k => merkhetlaw04_Great.f k l) (greatS l) := by
  unfold merkhetlaw04_Great.f greatS
  by_cases c : l.length > 60
  · rw [decide_eq_true c]
    exact Ev.congr (f := fun _ => some true) (fun k => by rw [if_pos (by omega)]) (Ev.now _)
  · rw [decide_eq_false c, Bool.false_or]
    refine Ev.congr (fun k => by rw [if_neg (by omega)]) ?_
    exact greatS_l0 l (by omega) l.length 0 rfl (Nat.zero_le _)
/-- All spans' values are in range, their texts are short, and they are few. -/
def fineL (l : List S37) : Prop := l.length ≤ 60 ∧ ∀ s ∈ l, fineS s
theorem i64_in {x : Int} (h : (Lit.int .i64 x).wf = true) : -9223372036854775808 ≤ x ∧ x ≤ 9223372036854775807 := by
  simp [Lit.wf, IntKind.min, IntKind.max, IntKind.signed, IntKind.bits] at h; omega
theorem u8_in0 {x : Int} (h : (Lit.int .u8 x).wf = true) : 0 ≤ x := by
  simp [Lit.wf, IntKind.min, IntKind.max, IntKind.signed, IntKind.bits] at h; omega
theorem fineL_of {l : List S37} (h : ∀ x0_ ∈ l, ((Lit.int .u64 x0_.f0).wf = true ∧ (Lit.int .u64 x0_.f1).wf = true ∧ (Lit.int .u64 x0_.f2).wf = true ∧ (Lit.int .u8 x0_.f3).wf = true ∧ x0_.f4.size ≤ maxLen ∧ x0_.f5.size ≤ maxLen ∧ (Lit.int .i64 x0_.f6).wf = true ∧ (Lit.int .i64 x0_.f7).wf = true)) (hg : greatS l = false) : fineL l := by
  unfold greatS at hg
  rw [Bool.or_eq_false_iff] at hg
  refine ⟨by have := of_decide_eq_false hg.1; omega, fun s hs => ?_⟩
  have h1 := List.any_eq_false.1 hg.2 s hs
  simp only [Bool.or_eq_true, decide_eq_true_eq, not_or] at h1
  have h2 := h s hs
  have h6 := i64_in h2.2.2.2.2.2.2.1
  have h7 := i64_in h2.2.2.2.2.2.2.2
  exact ⟨u8_in0 h2.2.2.2.1, by omega, by omega, h6.1, h6.2, h7.1, h7.2⟩
/-- A span by its place. -/
noncomputable def findS (l : List S37) (a : Int) : S37 × Bool := if 0 ≤ a ∧ a < (l.length : Int) ∧ mayS (rd_T37 l a) = true then (rd_T37 l a, true) else (z37, false)
theorem rdS_mem {l : List S37} {a : Int} (h0 : 0 ≤ a) (h1 : a < (l.length : Int)) : rd_T37 l a ∈ l := by
  show l.getD _ _ ∈ l
  rw [List.getD_eq_getElem?_getD, List.getElem?_eq_getElem (by omega)]
  exact List.getElem_mem _
theorem find_ev {l : List S37} (f : fineL l) (a : Int) : Ev (fun k => rpc_finder_at k l a) (findS l a) := by
  unfold rpc_finder_at findS
  by_cases c1 : a < 0
  · rw [if_neg (show ¬ (0 ≤ a ∧ a < (l.length : Int) ∧ mayS (rd_T37 l a) = true) by omega)]
    exact Ev.congr (f := fun _ => some _) (fun k => by rw [if_pos c1]) (Ev.now _)
  · by_cases c2 : a < (l.length : Int)
    · refine Ev.congr (fun k => by rw [if_neg c1, if_pos c2]) ?_
      refine Ev.bind (may_ev (f.2 _ (rdS_mem (by omega) c2))) ?_
      by_cases c3 : mayS (rd_T37 l a) = true
      · rw [if_pos (show 0 ≤ a ∧ a < (l.length : Int) ∧ mayS (rd_T37 l a) = true from ⟨by omega, c2, c3⟩)]
        exact Ev.congr (f := fun _ => some _) (fun k => by rw [if_pos c3]) (Ev.now _)
      · rw [if_neg (show ¬ (0 ≤ a ∧ a < (l.length : Int) ∧ mayS (rd_T37 l a) = true) from fun h => c3 h.2.2)]
        exact Ev.congr (f := fun _ => some _) (fun k => by rw [if_neg c3]) (Ev.now _)
    · rw [if_neg (show ¬ (0 ≤ a ∧ a < (l.length : Int) ∧ mayS (rd_T37 l a) = true) by omega)]
      exact Ev.congr (f := fun _ => some _) (fun k => by rw [if_neg c1, if_neg c2]) (Ev.now _)
/-- May both spans be? -/
def bothS (l : List S37) (p q : Int) : Prop := (0 ≤ p ∧ p < (l.length : Int) ∧ mayS (rd_T37 l p) = true) ∧ (0 ≤ q ∧ q < (l.length : Int) ∧ mayS (rd_T37 l q) = true)
open Classical in
noncomputable def gapsS (l : List S37) (p q : Int) : Int × Int × Bool := if bothS l p q then ((rd_T37 l q).f6 - (rd_T37 l p).f6, (rd_T37 l p).f7 - (rd_T37 l q).f7 - ((rd_T37 l q).f6 - (rd_T37 l p).f6), true) else (0, 0, false)
theorem wrapG (a b c d : Int) (ha : 0 ≤ a ∧ a < 1125899906842624) (hb : 0 ≤ b ∧ b < 1125899906842624) (hc : 0 ≤ c ∧ c ≤ 1125899906842624) (hd : 0 ≤ d ∧ d ≤ 1125899906842624) : wrap64 (b - a) = b - a ∧ wrap64 (wrap64 (c - d) - wrap64 (b - a)) = c - d - (b - a) ∧ wrap64 (wrap64 (wrap64 (a + c) - b) - d) = c - d - (b - a) := by
  unfold wrap64; omega
theorem gaps_ev {l : List S37} (f : fineL l) (p q : Int) : Ev (fun k => rpc_Gaps.f k l p q) (gapsS l p q) := by
  unfold rpc_Gaps.f
  refine Ev.bind (find_ev f p) (Ev.bind (find_ev f q) ?_)
  unfold findS gapsS
  by_cases c1 : 0 ≤ p ∧ p < (l.length : Int) ∧ mayS (rd_T37 l p) = true
  · rw [if_pos c1]
    by_cases c2 : 0 ≤ q ∧ q < (l.length : Int) ∧ mayS (rd_T37 l q) = true
    · rw [if_pos c2, if_pos (show bothS l p q from ⟨c1, c2⟩)]
      have h1 := may_in (f.2 _ (rdS_mem c1.1 c1.2.1)) c1.2.2
      have h2 := may_in (f.2 _ (rdS_mem c2.1 c2.2.1)) c2.2.2
      have hw := wrapG _ _ _ _ ⟨h1.1, h1.2.1⟩ ⟨h2.1, h2.2.1⟩ ⟨h1.2.2.1, h1.2.2.2⟩ ⟨h2.2.2.1, h2.2.2.2⟩
      refine Ev.congr (f := fun _ => some _) (fun k => ?_) (Ev.now _)
      rw [if_pos rfl, if_pos rfl, hw.2.1, hw.1]
    · rw [if_neg c2, if_neg (show ¬ bothS l p q from fun h => c2 h.2)]
      exact Ev.congr (f := fun _ => some _) (fun k => by rw [if_pos rfl, if_neg (by decide)]) (Ev.now _)
  · rw [if_neg c1, if_neg (show ¬ bothS l p q from fun h => c1 h.1)]
    exact Ev.congr (f := fun _ => some _) (fun k => by rw [if_neg (by decide)]) (Ev.now _)
end Go.Proofs.Ytcgjplolehhpjaa.S
