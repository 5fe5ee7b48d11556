/- What layer 10's walk over the parents finds: a place of each cycle. -/
import Derived.Test.YtacjlaiddnfpdaaH11
import Derived.Test.YtacjlaiddnfpdaaWMore
import Derived.Test.YtacjlaiddnfpdaaWLast
set_option linter.unusedVariables false
namespace Go.Proofs.Ytacjlaiddnfpdaa.H
open Go.RowKit Go.Proofs.YtacjlaiddnfpdaaW.PrintWords Go.Proofs.YtacjlaiddnfpdaaW.PrintLast Go.Proofs.YtacjlaiddnfpdaaW.PrintMore
/-- The walk from a place on: what is marked (1) then; the place at which it met itself. -/
def walkF (p : List Int) : Nat → List Int → Int → Option (List Int × Option Int)
  | 0, _, _ => none
  | k + 1, st, at_ =>
    if at_ < 0 then some (st, none)
    else if at_ < (st.length : Int) then
      (if st.getD at_.toNat 0 = 2 then some (st, none)
      else if st.getD at_.toNat 0 = 1 then some (st, some at_)
      else if at_ < (p.length : Int) then walkF p k (st.set at_.toNat 1) (p.getD at_.toNat 0) else none)
    else none
/-- .. and once more: what was marked is done with (2). -/
def backF (p : List Int) : Nat → List Int → Int → Option (List Int)
  | 0, _, _ => none
  | k + 1, st, at_ =>
    if at_ < 0 then some st
    else if at_ < (st.length : Int) then
      (if st.getD at_.toNat 0 = 1 then (if at_ < (p.length : Int) then backF p k (st.set at_.toNat 2) (p.getD at_.toNat 0) else none)
      else some st)
    else none
/-- From the last d places on. -/
def outF (p : List Int) (k : Nat) : Nat → List Int → List Int → Option (List Int)
  | 0, _, fs => some fs
  | d + 1, st, fs => (walkF p k st ((p.length - (d + 1) : Nat) : Int)).bind fun x => (backF p k x.1 ((p.length - (d + 1) : Nat) : Int)).bind fun s => outF p k d s (fs ++ x.2.toList)
def cyclesF (k : Nat) (p : List Int) : Option (List Int) := outF p k p.length (List.replicate p.length 0) []

theorem walkF_mono (p : List Int) : ∀ (k : Nat) (st : List Int) (a : Int), LeO (walkF p k st a) (walkF p (k + 1) st a)
  | 0, _, _ => fun _ h => by cases h
  | k + 1, st, a => fun r h => by
    unfold walkF at h ⊢
    by_cases c1 : a < 0
    · rw [if_pos c1] at h ⊢; exact h
    · rw [if_neg c1] at h ⊢
      by_cases c2 : a < (st.length : Int)
      · rw [if_pos c2] at h ⊢
        by_cases c3 : st.getD a.toNat 0 = 2
        · rw [if_pos c3] at h ⊢; exact h
        · rw [if_neg c3] at h ⊢
          by_cases c4 : st.getD a.toNat 0 = 1
          · rw [if_pos c4] at h ⊢; exact h
          · rw [if_neg c4] at h ⊢
            by_cases c5 : a < (p.length : Int)
            · rw [if_pos c5] at h ⊢; exact walkF_mono p k _ _ r h
            · rw [if_neg c5] at h; cases h
      · rw [if_neg c2] at h; cases h
theorem backF_mono (p : List Int) : ∀ (k : Nat) (st : List Int) (a : Int), LeO (backF p k st a) (backF p (k + 1) st a)
  | 0, _, _ => fun _ h => by cases h
  | k + 1, st, a => fun r h => by
    unfold backF at h ⊢
    by_cases c1 : a < 0
    · rw [if_pos c1] at h ⊢; exact h
    · rw [if_neg c1] at h ⊢
      by_cases c2 : a < (st.length : Int)
      · rw [if_pos c2] at h ⊢
        by_cases c4 : st.getD a.toNat 0 = 1
        · rw [if_pos c4] at h ⊢
          by_cases c5 : a < (p.length : Int)
          · rw [if_pos c5] at h ⊢; exact backF_mono p k _ _ r h
          · rw [if_neg c5] at h; cases h
        · rw [if_neg c4] at h ⊢; exact h
      · rw [if_neg c2] at h; cases h
theorem outF_mono (p : List Int) (k : Nat) : ∀ (d : Nat) (st fs : List Int), LeO (outF p k d st fs) (outF p (k + 1) d st fs)
  | 0, _, _ => fun _ h => h
  | d + 1, st, fs => LeO.bind (walkF_mono p k _ _) (fun x => LeO.bind (backF_mono p k _ _) (fun s => outF_mono p k d _ _))
theorem cyclesF_mono (k : Nat) (p : List Int) : LeO (cyclesF k p) (cyclesF (k + 1) p) := outF_mono p k _ _ _

theorem Ev.now_ {α : Type} {g : Nat → Option α} {r : α} (h : ∀ k, g (k + 1) = some r) : Ev g r := ⟨1, fun k hk => by obtain ⟨m, rfl⟩ : ∃ m, k = m + 1 := ⟨k - 1, by omega⟩; exact h m⟩
theorem Ev.step_ {α : Type} {g f : Nat → Option α} {r : α} (h : ∀ k, g (k + 1) = f k) (hf : Ev f r) : Ev g r := by
  obtain ⟨K, hK⟩ := hf
  exact ⟨K + 1, fun k hk => by obtain ⟨m, rfl⟩ : ∃ m, k = m + 1 := ⟨k - 1, by omega⟩; rw [h]; exact hK m (by omega)⟩
theorem Ev.bind_ {α β : Type} {g : Nat → Option α} {f : Nat → α → Option β} {x : α} {r : β} (hg : Ev g x) (hf : Ev (fun k => f k x) r) : Ev (fun k => (g k).bind (f k)) r := by
  obtain ⟨K, hK⟩ := hg
  obtain ⟨L, hL⟩ := hf
  exact ⟨K + L, fun k hk => by show (g k).bind (f k) = some r; rw [hK k (by omega)]; exact hL k (by omega)⟩

open Classical in
/-- What is marked when the walk from a has made j steps: these 1, all else as it was. -/
def Marks (p st0 st : List Int) (a : Int) (j : Nat) : Prop := st.length = p.length ∧ ∀ x : Nat, x < p.length → st.getD x 0 = if ∃ i, i < j ∧ up p i a = (x : Int) then 1 else st0.getD x 0
theorem getD_set (l : List Int) (i x : Nat) (v : Int) (h : i < l.length) : (l.set i v).getD x 0 = if x = i then v else l.getD x 0 := by
  simp only [List.getD_eq_getElem?_getD, List.getElem?_set]
  by_cases c : i = x
  · subst c; rw [if_pos rfl, if_pos rfl, if_pos h]; rfl
  · rw [if_neg c, if_neg (fun e => c e.symm)]
theorem Marks.step {p st0 st : List Int} {a : Int} {j : Nat} (h : Marks p st0 st a j) (h0 : 0 ≤ up p j a) (h1 : up p j a < (p.length : Int)) : Marks p st0 (st.set (up p j a).toNat 1) a (j + 1) := by
  refine ⟨by rw [List.length_set]; exact h.1, fun x hx => ?_⟩
  rw [getD_set _ _ _ _ (by rw [h.1]; omega)]
  by_cases c : x = (up p j a).toNat
  · rw [if_pos c, if_pos ⟨j, by omega, by omega⟩]
  · rw [if_neg c, h.2 x hx]
    by_cases e : ∃ i, i < j ∧ up p i a = (x : Int)
    · obtain ⟨i, hi, he⟩ := e
      rw [if_pos ⟨i, hi, he⟩, if_pos ⟨i, by omega, he⟩]
    · rw [if_neg e, if_neg (fun ⟨i, hi, he⟩ => by
        rcases Nat.lt_or_ge i j with h2 | h2
        · exact e ⟨i, h2, he⟩
        · obtain rfl : i = j := by omega
          omega)]
/-- The walk: it makes some steps, all to places that weren't marked, none twice, and ends at none, at one that is done with, or at one of its own. -/
theorem walk_ev {p : List Int} (hp : okP p) (st0 : List Int) (a : Int) (ha : -1 ≤ a) (ha1 : a < (p.length : Int)) (h02 : ∀ x : Nat, x < p.length → st0.getD x 0 = 0 ∨ st0.getD x 0 = 2) :
    ∀ (d j : Nat) (st : List Int), p.length - j = d → j ≤ p.length → Marks p st0 st a j → (∀ i, i < j → 0 ≤ up p i a ∧ st0.getD (up p i a).toNat 0 = 0) → (∀ i i', i < i' → i' < j → up p i a ≠ up p i' a) →
    ∃ (m : Nat) (st1 : List Int) (f : Option Int), Ev (fun k => walkF p k st (up p j a)) (st1, f) ∧ Marks p st0 st1 a m ∧ (∀ i, i < m → 0 ≤ up p i a ∧ st0.getD (up p i a).toNat 0 = 0) ∧ (∀ i i', i < i' → i' < m → up p i a ≠ up p i' a) ∧
      ((f = none ∧ (up p m a < 0 ∨ (0 ≤ up p m a ∧ st0.getD (up p m a).toNat 0 = 2))) ∨ (f = some (up p m a) ∧ ∃ i, i < m ∧ up p i a = up p m a)) := by
  intro d
  induction d with
  | zero =>
    intro j st hd hj hm hz hdis
    obtain rfl : j = p.length := by omega
    by_cases c1 : up p p.length a < 0
    · exact ⟨_, st, none, Ev.now_ (fun k => by rw [walkF, if_pos c1]), hm, hz, hdis, .inl ⟨rfl, .inl c1⟩⟩
    · obtain ⟨i, j', hij, hj', he⟩ := up_twice hp ha1 (by omega)
      have hj2 : j' = p.length := by
        rcases Nat.lt_or_ge j' p.length with h | h
        · exact absurd he (hdis i j' hij h)
        · omega
      subst hj2
      have hlt := (okP_up hp p.length ha ha1).2
      have hst : st.getD (up p p.length a).toNat 0 = 1 := by
        rw [hm.2 _ (by omega), if_pos ⟨i, hij, by rw [he]; omega⟩]
      exact ⟨_, st, some (up p p.length a), Ev.now_ (fun k => by rw [walkF, if_neg c1, if_pos (by rw [hm.1]; exact hlt), hst, if_neg (by decide), if_pos rfl]), hm, hz, hdis, .inr ⟨rfl, i, hij, he⟩⟩
  | succ d ih =>
    intro j st hd hj hm hz hdis
    by_cases c1 : up p j a < 0
    · exact ⟨_, st, none, Ev.now_ (fun k => by rw [walkF, if_pos c1]), hm, hz, hdis, .inl ⟨rfl, .inl c1⟩⟩
    · have hlt := (okP_up hp j ha ha1).2
      have hlt' : (up p j a).toNat < p.length := by omega
      have hst := hm.2 _ hlt'
      by_cases e : ∃ i, i < j ∧ up p i a = ((up p j a).toNat : Int)
      · rw [if_pos e] at hst
        obtain ⟨i, hi, he⟩ := e
        exact ⟨_, st, some (up p j a), Ev.now_ (fun k => by rw [walkF, if_neg c1, if_pos (by rw [hm.1]; exact hlt), hst, if_neg (by decide), if_pos rfl]), hm, hz, hdis, .inr ⟨rfl, i, hi, by omega⟩⟩
      · rw [if_neg e] at hst
        rcases h02 _ hlt' with h0 | h2
        · obtain ⟨m, st1, f, hev, hr⟩ := ih (j + 1) (st.set (up p j a).toNat 1) (by omega) (by omega) (hm.step (by omega) hlt) (fun i hi => by
            rcases Nat.lt_or_ge i j with h | h
            · exact hz i h
            · obtain rfl : i = j := by omega
              exact ⟨by omega, h0⟩) (fun i i' hii hi' => by
            rcases Nat.lt_or_ge i' j with h | h
            · exact hdis i i' hii h
            · obtain rfl : i' = j := by omega
              exact fun he => e ⟨i, hii, by omega⟩)
          refine ⟨m, st1, f, Ev.step_ (fun k => ?_) hev, hr⟩
          rw [walkF, if_neg c1, if_pos (by rw [hm.1]; exact hlt), hst, h0, if_neg (by decide), if_neg (by decide), if_pos hlt, up_succ]
          unfold nx
          rw [if_pos (by omega)]
        · rw [h2] at hst
          exact ⟨_, st, none, Ev.now_ (fun k => by rw [walkF, if_neg c1, if_pos (by rw [hm.1]; exact hlt), hst, if_pos rfl]), hm, hz, hdis, .inl ⟨rfl, .inr ⟨by omega, h2⟩⟩⟩
open Classical in
/-- What is marked when the way back has made j of m steps. -/
def Backs (p st0 st : List Int) (a : Int) (m j : Nat) : Prop := st.length = p.length ∧ ∀ x : Nat, x < p.length → st.getD x 0 = if ∃ i, i < j ∧ up p i a = (x : Int) then 2 else if ∃ i, i < m ∧ up p i a = (x : Int) then 1 else st0.getD x 0
theorem back_ev {p : List Int} (hp : okP p) (st0 : List Int) (a : Int) (ha : -1 ≤ a) (ha1 : a < (p.length : Int)) (m : Nat) (hz : ∀ i, i < m → 0 ≤ up p i a ∧ st0.getD (up p i a).toNat 0 = 0) (hdis : ∀ i i', i < i' → i' < m → up p i a ≠ up p i' a)
    (hend : up p m a < 0 ∨ (0 ≤ up p m a ∧ st0.getD (up p m a).toNat 0 = 2) ∨ ∃ i, i < m ∧ up p i a = up p m a) :
    ∀ (d j : Nat) (st : List Int), m - j = d → j ≤ m → Backs p st0 st a m j → ∃ st1, Ev (fun k => backF p k st (up p j a)) st1 ∧ Backs p st0 st1 a m m := by
  intro d
  induction d with
  | zero =>
    intro j st hd hj hb
    obtain rfl : j = m := by omega
    refine ⟨st, ?_, hb⟩
    by_cases c1 : up p j a < 0
    · exact Ev.now_ (fun k => by rw [backF, if_pos c1])
    · have hlt := (okP_up hp j ha ha1).2
      have hlt' : (up p j a).toNat < p.length := by omega
      have hst := hb.2 _ hlt'
      have h2 : st.getD (up p j a).toNat 0 = 2 := by
        by_cases e : ∃ i, i < j ∧ up p i a = ((up p j a).toNat : Int)
        · rw [hst, if_pos e]
        · rw [if_neg e, if_neg e] at hst
          rcases hend with h | h | ⟨i, hi, h⟩
          · exact absurd h c1
          · rw [hst]; exact h.2
          · exact absurd ⟨i, hi, by omega⟩ e
      exact Ev.now_ (fun k => by rw [backF, if_neg c1, if_pos (by rw [hb.1]; exact hlt), h2, if_neg (by decide)])
  | succ d ih =>
    intro j st hd hj hb
    have hjm : j < m := by omega
    have h0 := (hz j hjm).1
    have hlt := (okP_up hp j ha ha1).2
    have hlt' : (up p j a).toNat < p.length := by omega
    have hst := hb.2 _ hlt'
    have e1 : ((up p j a).toNat : Int) = up p j a := Int.toNat_of_nonneg h0
    rw [e1, if_neg (fun ⟨i, hi, he⟩ => hdis i j hi hjm he), if_pos ⟨j, hjm, rfl⟩] at hst
    obtain ⟨st1, hev, hr⟩ := ih (j + 1) (st.set (up p j a).toNat 2) (by omega) (by omega) ⟨by rw [List.length_set]; exact hb.1, fun x hx => by
      rw [getD_set _ _ _ _ (by rw [hb.1]; omega)]
      by_cases c : x = (up p j a).toNat
      · rw [if_pos c, if_pos ⟨j, by omega, by omega⟩]
      · rw [if_neg c, hb.2 x hx]
        by_cases e : ∃ i, i < j ∧ up p i a = (x : Int)
        · obtain ⟨i, hi, he⟩ := e
          rw [if_pos ⟨i, hi, he⟩, if_pos ⟨i, by omega, he⟩]
        · have e2 : ¬ ∃ i, i < j + 1 ∧ up p i a = (x : Int) := fun ⟨i, hi, he⟩ => by
            rcases Nat.lt_or_ge i j with h2 | h2
            · exact e ⟨i, h2, he⟩
            · obtain rfl : i = j := by omega
              exact c (by rw [he]; rfl)
          rw [if_neg e, if_neg e2]⟩
    refine ⟨st1, Ev.step_ (fun k => ?_) hev, hr⟩
    rw [backF, if_neg (by omega), if_pos (by rw [hb.1]; exact hlt), hst, if_pos rfl, if_pos hlt, up_succ]
    unfold nx
    rw [if_pos h0]
/-- What holds between the walks from place to place. -/
structure Between (p st fs : List Int) (i : Nat) : Prop where
  len : st.length = p.length
  two : ∀ x : Nat, x < p.length → st.getD x 0 = 0 ∨ st.getD x 0 = 2
  done : ∀ x : Nat, x < i → x < p.length → st.getD x 0 = 2
  closed : ∀ x : Nat, x < p.length → st.getD x 0 = 2 → 0 ≤ nx p x → st.getD (nx p x).toNat 0 = 2
  sound : ∀ f ∈ fs, cyc p f ∧ f < (p.length : Int)
  whole : ∀ x : Nat, x < p.length → st.getD x 0 = 2 → cyc p x → ∃ f ∈ fs, ∃ m, up p m x = f
theorem closed_up {p st fs : List Int} {i : Nat} (hp : okP p) (h : Between p st fs i) : ∀ (m : Nat) (x : Int), 0 ≤ x → x < (p.length : Int) → st.getD x.toNat 0 = 2 → 0 ≤ up p m x → st.getD (up p m x).toNat 0 = 2
  | 0, x, _, _, h2, _ => h2
  | m + 1, x, h0, h1, h2, hu => by
    have hn : 0 ≤ nx p x := up_pos_le (p := p) (a := x) (i := 1) (j := m + 1) (by omega) hu
    have hc := h.closed x.toNat (by omega) h2 (by rw [Int.toNat_of_nonneg h0]; exact hn)
    rw [Int.toNat_of_nonneg h0] at hc
    exact closed_up hp h m (nx p x) hn (okP_nx hp (by omega) h1).2 hc hu
theorem between_step {p st fs : List Int} {i : Nat} (hp : okP p) (hi : i < p.length) (h : Between p st fs i) :
    ∃ st1 f st2, Ev (fun k => walkF p k st (i : Int)) (st1, f) ∧ Ev (fun k => backF p k st1 (i : Int)) st2 ∧ Between p st2 (fs ++ f.toList) (i + 1) := by
  obtain ⟨m, st1, f, hev, hm, hz, hdis, hend⟩ := walk_ev hp st (i : Int) (by omega) (by omega) h.two p.length 0 st (by omega) (Nat.zero_le _) ⟨h.len, fun x hx => by rw [if_neg (fun ⟨i, hi, _⟩ => absurd hi (Nat.not_lt_zero _))]⟩ (fun i hi => absurd hi (Nat.not_lt_zero _)) (fun i i' _ hi => absurd hi (Nat.not_lt_zero _))
  have hend' : up p m (i : Int) < 0 ∨ (0 ≤ up p m (i : Int) ∧ st.getD (up p m (i : Int)).toNat 0 = 2) ∨ ∃ i', i' < m ∧ up p i' (i : Int) = up p m (i : Int) := by
    rcases hend with ⟨_, h | h⟩ | ⟨_, h⟩
    · exact .inl h
    · exact .inr (.inl h)
    · exact .inr (.inr h)
  obtain ⟨st2, hev2, hb⟩ := back_ev hp st (i : Int) (by omega) (by omega) m hz hdis hend' m 0 st1 (by omega) (Nat.zero_le _) ⟨hm.1, fun x hx => by
    have e0 : ¬ ∃ i', i' < 0 ∧ up p i' (i : Int) = (x : Int) := fun ⟨i', hi', _⟩ => absurd hi' (Nat.not_lt_zero _)
    rw [hm.2 x hx, if_neg e0]⟩
  refine ⟨st1, f, st2, hev, hev2, ?_⟩
  -- what is marked now: what was done with, and the way
  have hval : ∀ x : Nat, x < p.length → (st2.getD x 0 = 2 ↔ st.getD x 0 = 2 ∨ ∃ i', i' < m ∧ up p i' (i : Int) = (x : Int)) := fun x hx => by
    rw [hb.2 x hx]
    by_cases e : ∃ i', i' < m ∧ up p i' (i : Int) = (x : Int)
    · rw [if_pos e]; exact ⟨fun _ => .inr e, fun _ => rfl⟩
    · rw [if_neg e, if_neg e]; exact ⟨.inl, fun h => h.resolve_right e⟩
  have hkeep : ∀ x : Nat, x < p.length → st2.getD x 0 = 0 ∨ st2.getD x 0 = 2 := fun x hx => by
    rw [hb.2 x hx]
    by_cases e : ∃ i', i' < m ∧ up p i' (i : Int) = (x : Int)
    · rw [if_pos e]; exact .inr rfl
    · rw [if_neg e, if_neg e]; exact h.two x hx
  refine ⟨hb.1, hkeep, fun x hx hxp => ?_, fun x hx h2 hn => ?_, fun g hg => ?_, fun x hx h2 hc => ?_⟩
  · rcases Nat.lt_or_ge x i with hlt | hge
    · exact (hval x hxp).2 (.inl (h.done x hlt hxp))
    · obtain rfl : x = i := by omega
      cases m with
      | zero =>
        rcases hend' with h' | h' | ⟨i', hi', _⟩
        · exact absurd h' (by show ¬ ((x : Int) < 0); omega)
        · exact (hval x hxp).2 (.inl h'.2)
        · exact absurd hi' (Nat.not_lt_zero _)
      | succ m => exact (hval x hxp).2 (.inr ⟨0, by omega, rfl⟩)
  · have hnlt := (okP_nx hp (show -1 ≤ (x : Int) by omega) (by omega)).2
    rw [hval _ (by omega)]
    rcases (hval x hx).1 h2 with h' | ⟨i', hi', he⟩
    · exact .inl (h.closed x hx h' hn)
    · have he2 : up p (i' + 1) (i : Int) = nx p x := by rw [up_succ, he]
      rcases Nat.lt_or_ge (i' + 1) m with hlt | hge
      · exact .inr ⟨i' + 1, hlt, by rw [he2]; omega⟩
      · obtain rfl : m = i' + 1 := by omega
        rw [he2] at hend'
        rcases hend' with h' | h' | ⟨i2, hi2, h'⟩
        · omega
        · exact .inl h'.2
        · exact .inr ⟨i2, hi2, by rw [h']; omega⟩
  · rcases List.mem_append.1 hg with hg | hg
    · exact h.sound g hg
    · rcases hend with ⟨rfl, _⟩ | ⟨rfl, i', hi', he⟩
      · simp at hg
      · have hg : g = up p m (i : Int) := by simpa using hg
        subst hg
        have h0 : 0 ≤ up p m (i : Int) := by rw [← he]; exact (hz i' hi').1
        refine ⟨⟨h0, m - i', by omega, ?_⟩, (okP_up hp m (by omega) (by omega)).2⟩
        conv => lhs; rw [← he]
        rw [← up_add, show i' + (m - i') = m by omega]
  · rcases (hval x hx).1 h2 with h' | ⟨i', hi', he⟩
    · obtain ⟨g, hg, hm⟩ := h.whole x hx h' hc
      exact ⟨g, List.mem_append_left _ hg, hm⟩
    · -- x is on the way, and on a cycle: the way ends at one of its own, or at what is done with
      have hupx : ∀ t, up p (i' + t) (i : Int) = up p t (x : Int) := fun t => by rw [up_add, he]
      have h0 : 0 ≤ up p m (i : Int) := by
        rw [show m = i' + (m - i') by omega, hupx]
        exact cyc_pos hc _
      rcases hend with ⟨rfl, h' | h'⟩ | ⟨rfl, i2, hi2, h'⟩
      · omega
      · have hx2 : st.getD x 0 = 2 := by
          obtain ⟨t, ht⟩ := cyc_back hc (m - i')
          have := closed_up hp h t (up p (m - i') x) (cyc_pos hc _) (okP_up hp _ (by omega) (by omega)).2 (by rw [← hupx, show i' + (m - i') = m by omega]; exact h'.2) (by rw [ht]; omega)
          rw [ht] at this
          simpa using this
        obtain ⟨g, hg, hm⟩ := h.whole x hx hx2 hc
        exact ⟨g, List.mem_append_left _ hg, hm⟩
      · refine ⟨up p m (i : Int), List.mem_append_right _ (by simp), m - i', ?_⟩
        rw [← hupx, show i' + (m - i') = m by omega]
theorem outF_prefix {p : List Int} {k : Nat} : ∀ (d : Nat) (st fs' fs : List Int), outF p k d st fs' = some fs → ∃ rest, fs = fs' ++ rest
  | 0, _, fs', fs, h => ⟨[], by rw [List.append_nil]; exact (Option.some.inj h).symm⟩
  | d + 1, st, fs', fs, h => by
    unfold outF at h
    obtain ⟨x, _, h⟩ := Option.bind_eq_some_iff.mp h
    obtain ⟨s, _, h⟩ := Option.bind_eq_some_iff.mp h
    obtain ⟨rest, hr⟩ := outF_prefix d s _ fs h
    exact ⟨x.2.toList ++ rest, by rw [hr, List.append_assoc]⟩
/-- What is found are places on cycles, and one of each cycle. -/
theorem outF_ev {p : List Int} (hp : okP p) : ∀ (d : Nat) (st fs : List Int), d ≤ p.length → Between p st fs (p.length - d) → ∃ gs, Ev (fun k => outF p k d st fs) gs ∧ (∀ f ∈ gs, cyc p f ∧ f < (p.length : Int)) ∧ ∀ x : Nat, x < p.length → cyc p x → ∃ f ∈ gs, ∃ m, up p m x = f
  | 0, st, fs, _, h => ⟨fs, Ev.now_ (fun _ => rfl), h.sound, fun x hx hc => h.whole x hx (h.done x (by omega) hx) hc⟩
  | d + 1, st, fs, hd, h => by
    obtain ⟨st1, f, st2, h1, h2, hb⟩ := between_step hp (by omega) h
    obtain ⟨gs, hg, hr⟩ := outF_ev hp d st2 (fs ++ f.toList) (by omega) (by rw [show p.length - d = p.length - (d + 1) + 1 by omega]; exact hb)
    exact ⟨gs, Ev.bind_ h1 (Ev.bind_ h2 hg), hr⟩
/-- Are all places such? -/
def okB (p : List Int) : Bool := p.all fun x => decide (-1 ≤ x) && decide (x < (p.length : Int))
theorem okB_iff {p : List Int} : okB p = true ↔ okP p := by
  unfold okB okP
  rw [List.all_eq_true]
  exact ⟨fun h x hx => by have := h x hx; simp at this; exact this, fun h x hx => by have := h x hx; simp; exact this⟩
theorem okB_false {p : List Int} {i : Nat} (hi : i < p.length) (h : ¬ (-1 ≤ p.getD i 0 ∧ p.getD i 0 < (p.length : Int))) : okB p = false := by
  rw [Bool.eq_false_iff]
  intro hh
  have := okB_iff.1 hh (p.getD i 0) (by rw [List.getD_eq_getElem?_getD, List.getElem?_eq_getElem hi]; exact List.getElem_mem hi)
  exact h this
theorem okB_true {p : List Int} (h : ∀ i, i < p.length → -1 ≤ p.getD i 0 ∧ p.getD i 0 < (p.length : Int)) : okB p = true := by
  refine okB_iff.2 fun x hx => ?_
  obtain ⟨i, hi, rfl⟩ := List.getElem_of_mem hx
  have := h i hi
  rwa [List.getD_eq_getElem?_getD, List.getElem?_eq_getElem hi] at this
theorem cyclesF_ev {p : List Int} (hp : okP p) : ∃ gs, Ev (fun k => cyclesF k p) gs ∧ (∀ f ∈ gs, cyc p f ∧ f < (p.length : Int)) ∧ ∀ x : Nat, x < p.length → cyc p x → ∃ f ∈ gs, ∃ m, up p m x = f :=
  outF_ev hp p.length _ [] (Nat.le_refl _) ⟨by simp, fun x hx => .inl (by simp [List.getD_eq_getElem?_getD, hx]), fun x hx => absurd hx (by omega), fun x hx h => absurd h (by simp [List.getD_eq_getElem?_getD, hx]), fun f hf => by simp at hf, fun x hx h => absurd h (by simp [List.getD_eq_getElem?_getD, hx])⟩
theorem outF_len {p : List Int} {k : Nat} : ∀ (d : Nat) (st fs' fs : List Int), outF p k d st fs' = some fs → fs.length ≤ fs'.length + d
  | 0, _, fs', fs, h => by rw [← Option.some.inj (show some fs' = some fs from h)]; omega
  | d + 1, st, fs', fs, h => by
    unfold outF at h
    obtain ⟨x, _, h⟩ := Option.bind_eq_some_iff.mp h
    obtain ⟨s, _, h⟩ := Option.bind_eq_some_iff.mp h
    have h1 := outF_len d s _ fs h
    have h2 : x.2.toList.length ≤ 1 := by cases x.2 <;> simp
    rw [List.length_append] at h1
    omega
theorem cyclesF_len {p : List Int} {k : Nat} {fs : List Int} (h : cyclesF k p = some fs) : fs.length ≤ p.length := by
  have := outF_len _ _ _ _ h
  simpa using this
/-- Of a cycle the least place: from kk on, till a is met again. -/
def leastF (p : List Int) (a : Int) : Nat → Int → Int → Option Int
  | 0, _, _ => none
  | k + 1, kk, lst => if kk = a then some lst else if 0 ≤ kk then (if kk < (p.length : Int) then leastF p a k (p.getD kk.toNat 0) (mn lst kk) else none) else none
theorem leastF_mono (p : List Int) (a : Int) : ∀ (k : Nat) (kk lst : Int), LeO (leastF p a k kk lst) (leastF p a (k + 1) kk lst)
  | 0, _, _ => fun _ h => by cases h
  | k + 1, kk, lst => fun r h => by
    unfold leastF at h ⊢
    by_cases c1 : kk = a
    · rw [if_pos c1] at h ⊢; exact h
    · rw [if_neg c1] at h ⊢
      by_cases c2 : 0 ≤ kk
      · rw [if_pos c2] at h ⊢
        by_cases c3 : kk < (p.length : Int)
        · rw [if_pos c3] at h ⊢; exact leastF_mono p a k _ _ r h
        · rw [if_neg c3] at h; cases h
      · rw [if_neg c2] at h; cases h
def leastA (k : Nat) (p : List Int) (a : Int) : Option Int := if 0 ≤ a then (if a < (p.length : Int) then leastF p a k (p.getD a.toNat 0) a else none) else none
theorem leastA_mono (k : Nat) (p : List Int) (a : Int) : LeO (leastA k p a) (leastA (k + 1) p a) := LeO.ite (LeO.ite (leastF_mono p a k _ _) (LeO.refl _)) (LeO.refl _)
def leastsF (k : Nat) (p : List Int) : List Int → Option (List Int)
  | [] => some []
  | a :: r => (leastA k p a).bind fun x => (leastsF k p r).bind fun xs => some (x :: xs)
theorem leastsF_mono (k : Nat) (p : List Int) : ∀ l, LeO (leastsF k p l) (leastsF (k + 1) p l)
  | [] => LeO.refl _
  | a :: r => LeO.bind (leastA_mono k p a) (fun x => LeO.bind (leastsF_mono k p r) (fun xs => LeO.refl _))
theorem leastsF_split {k : Nat} {p : List Int} : ∀ {fs' : List Int} {a : Int} {rest ls : List Int}, leastsF k p (fs' ++ a :: rest) = some ls → ∃ ls' x, leastsF k p fs' = some ls' ∧ leastA k p a = some x ∧ leastsF k p (fs' ++ [a]) = some (ls' ++ [x])
  | [], a, rest, ls, h => by
    obtain ⟨x, hx, h⟩ := Option.bind_eq_some_iff.mp (show (leastA k p a).bind (fun x => (leastsF k p rest).bind fun xs => some (x :: xs)) = some ls from h)
    exact ⟨[], x, rfl, hx, by show (leastA k p a).bind _ = _; rw [hx]; rfl⟩
  | b :: fs', a, rest, ls, h => by
    obtain ⟨y, hy, h⟩ := Option.bind_eq_some_iff.mp (show (leastA k p b).bind (fun x => (leastsF k p (fs' ++ a :: rest)).bind fun xs => some (x :: xs)) = some ls from h)
    obtain ⟨zs, hz, h⟩ := Option.bind_eq_some_iff.mp h
    obtain ⟨ls', x, h1, h2, h3⟩ := leastsF_split hz
    exact ⟨y :: ls', x, by show (leastA k p b).bind _ = _; rw [hy]; show (leastsF k p fs').bind _ = _; rw [h1]; rfl, h2, by show (leastA k p b).bind _ = _; rw [hy]; show (leastsF k p (fs' ++ [a])).bind _ = _; rw [h3]; rfl⟩
theorem leastsF_len {k : Nat} {p : List Int} : ∀ {l r : List Int}, leastsF k p l = some r → r.length = l.length
  | [], r, h => by rw [← Option.some.inj (show some [] = some r from h)]
  | a :: l, r, h => by
    obtain ⟨x, _, h⟩ := Option.bind_eq_some_iff.mp (show (leastA k p a).bind (fun x => (leastsF k p l).bind fun xs => some (x :: xs)) = some r from h)
    obtain ⟨xs, hxs, h⟩ := Option.bind_eq_some_iff.mp h
    rw [← Option.some.inj h, List.length_cons, leastsF_len hxs]; rfl
def clearF : List Int → List Int → Option (List Int)
  | p, [] => some p
  | p, i :: r => if 0 ≤ i then (if i < (p.length : Int) then clearF (p.set i.toNat (-1)) r else none) else none
theorem clearF_length : ∀ {p ls r : List Int}, clearF p ls = some r → r.length = p.length
  | p, [], r, h => by rw [← Option.some.inj (show some p = some r from h)]
  | p, i :: ls, r, h => by
    unfold clearF at h
    by_cases c1 : 0 ≤ i
    · rw [if_pos c1] at h
      by_cases c2 : i < (p.length : Int)
      · rw [if_pos c2] at h
        have := clearF_length h
        rw [List.length_set] at this
        exact this
      · rw [if_neg c2] at h; cases h
    · rw [if_neg c1] at h; cases h
/-- Where a number stands first; -1. -/
def firstI (xs : List Int) (x : Int) : Int := if xs.findIdx (· == x) < xs.length then (xs.findIdx (· == x) : Int) else -1
/-- The places of parents, before any cycle is cut: out of numbers and parents' numbers. -/
def par0 (ids ps : List Int) : List Int := ps.map fun x => if x = 0 then -1 else firstI ids x
theorem firstI_snoc (xs : List Int) (y x : Int) : firstI (xs ++ [y]) x = if x ∈ xs then firstI xs x else if x = y then (xs.length : Int) else -1 := by
  unfold firstI
  by_cases h : x ∈ xs
  · have h1 : xs.findIdx (· == x) < xs.length := List.findIdx_lt_length_of_exists ⟨x, h, by simp⟩
    rw [if_pos h, if_pos h1, List.findIdx_append, if_pos h1, if_pos (by simp; omega)]
  · have h1 : ¬ xs.findIdx (· == x) < xs.length := fun h1 => by
      have := List.findIdx_getElem (w := h1)
      simp at this
      exact h (this ▸ List.getElem_mem h1)
    rw [if_neg h, List.findIdx_append, if_neg h1]
    by_cases e : x = y
    · subst e
      rw [if_pos rfl, if_pos (by simp [List.findIdx_cons])]
      simp [List.findIdx_cons]
    · have e2 : ¬ (y == x) = true := by simp; exact fun h => e h.symm
      rw [if_neg e, if_neg (by simp [List.findIdx_cons, e2]; omega)]
theorem firstI_mem {xs : List Int} {x : Int} : x ∈ xs ↔ 0 ≤ firstI xs x := by
  unfold firstI
  constructor
  · intro h
    rw [if_pos (List.findIdx_lt_length_of_exists ⟨x, h, by simp⟩)]
    omega
  · intro h
    split at h
    · rename_i h1
      have := List.findIdx_getElem (w := h1)
      simp at this
      exact this ▸ List.getElem_mem h1
    · omega
theorem firstI_lt (xs : List Int) (x : Int) : -1 ≤ firstI xs x ∧ firstI xs x < (xs.length : Int) := by
  unfold firstI
  split <;> omega
end Go.Proofs.Ytacjlaiddnfpdaa.H
