/- Any bytes are read as the document reads them, and what is read is put back: for any bytes (more than 4,000 ask the example alone). -/
import Derived.Test.YtdpodjgggicaoaaVC7s
import Derived.Test.YtdpodjgggicaoaaVC7f
import Derived.Test.YtdpodjgggicaoaaVC7g
import Derived.Test.YtdpodjgggicaoaaVC7h
import Derived.Test.YtdpodjgggicaoaaVx11
set_option linter.unusedVariables false
namespace Go.Proofs.Ytdpodjgggicaoaa.Pure
open Go.RowKit Go.Proofs.Ytdpodjgggicaoaa.V Go.Proofs.YtdpodjgggicaoaaW.PrintWords Go.Proofs.YtdpodjgggicaoaaW.PrintLast Go.Proofs.Ytdpodjgggicaoaa.H

theorem getP_err {b : List Nat} {e : Int} (h : getP b = .error e) : e ≠ 0 := by
  unfold getP at h
  split at h
  · split at h
    · exact absurd h (by simp)
    · have := Except.error.inj h; omega
  · have := Except.error.inj h; omega
theorem getsP_err : ∀ (c : Nat) (r : List Nat) (e : Int), getsP c r = .error e → e ≠ 0 := by
  intro c
  induction c with
  | zero => intro r e h; exact absurd h (by simp [getsP])
  | succ c ih =>
    intro r e h
    rw [getsP] at h
    split at h
    · rename_i x hx
      have := Except.error.inj h
      rw [← this]; exact getP_err hx
    · split at h
      · rename_i x hx
        have := Except.error.inj h
        rw [← this]; exact ih _ _ hx
      · exact absurd h (by simp)
theorem wireGet_err {b : List Nat} {e : Int} (h : wireGet b = .error e) : e ≠ 0 := by
  unfold wireGet at h
  split at h
  · have := Except.error.inj h; omega
  split at h
  · have := Except.error.inj h; omega
  split at h
  · have := Except.error.inj h; omega
  split at h
  · have := Except.error.inj h; omega
  split at h
  · have := Except.error.inj h; omega
  split at h
  · have := Except.error.inj h; omega
  exact getsP_err _ _ _ h
theorem wirePut_small {l : List PS} {b : List Nat} (h : wirePut l = (b, 0)) : l.length ≤ 32 ∧ l.all mayP = true := by
  unfold wirePut at h
  split at h
  · rename_i c; exact ⟨c.2.1, c.2.2⟩
  · have h1 : (1 : Int) = 0 := congrArg Prod.snd h; exact absurd h1 (by decide)

theorem WireGets : merkhetlaw04_WireGets.Pure := by
  intro l0 _ _ hw0
  obtain ⟨b, rfl, hb⟩ := row_bytes l0 hw0
  apply Ev.rounds
  unfold merkhetlaw04_WireGets.f
  by_cases c0 : (((rowB b).length : Nat) : Int) > 4000
  · exact Ev.congr (fun k => if_pos c0) (Ev.bind law04_fixed_ev (Ev.now _))
  refine Ev.congr (fun k => if_neg c0) ?_
  have hl : b.length < 1000000000 := by rw [rowB_length] at c0; omega
  have h2 := ref_Get4_ev b hb hl
  refine Ev.bind (wire_Get_ev b hb hl) (Ev.bind (show Ev (fun k => merkhetref04_Get.f k (strOfNums (rowB b))) (resG (wireGet b)) from h2) ?_)
  cases hg : wireGet b with
  | error e =>
    have hs := same_ev [] [] (fun p hp => by cases hp) (fun p hp => by cases hp) (by decide)
    rw [decide_eq_true rfl] at hs
    refine Ev.congr (f := fun k => (merkhetref01_Same.f k (([] : List PS).map mkS) (([] : List PS).map mkS)).bind fun t337 => (merkhetlaw04_WireGets.j0 k (rowB b) [] e (!t337))) (fun k => by rw [if_pos rfl]; rfl) (Ev.bind hs ?_)
    have hne : e ≠ 0 := wireGet_err hg
    exact Ev.step (f := fun k => (merkhetlaw04_fixed.f k).bind fun t => some t) (fun k => by rw [merkhetlaw04_WireGets.j0, if_neg (by decide), if_neg hne]) (Ev.bind law04_fixed_ev (Ev.now _))
  | ok l =>
    obtain ⟨g, hp⟩ := wireGet_ok hb hg
    obtain ⟨hln, hall⟩ := wirePut_small hp
    have gh : ∀ p ∈ l, p.h.length < 4611686018427387904 ∧ p.n.length < 4611686018427387904 := fun p hq => by
      obtain ⟨m1, m2⟩ := mayP_names (List.all_eq_true.1 hall p hq)
      have h1 := (nameB_len m1).2
      have h2 := (nameB_len m2).2
      omega
    have hs := same_ev l l (fun p hp => ⟨(g p hp).h, (g p hp).n⟩) (fun p hp => ⟨(g p hp).h, (g p hp).n⟩) (by omega)
    rw [decide_eq_true rfl] at hs
    refine Ev.congr (f := fun k => (merkhetref01_Same.f k (l.map mkS) (l.map mkS)).bind fun t337 => (merkhetlaw04_WireGets.j0 k (rowB b) (l.map mkS) 0 (!t337))) (fun k => by rw [if_pos rfl]; rfl) (Ev.bind hs ?_)
    have hput := wire_Put_ev l g gh
    rw [hp] at hput
    refine Ev.step (f := fun k => (wire_Put.f k (l.map mkS)).bind fun bt338 => ((merkhetlaw04_fixed.f k).bind fun t342 => (if t342 = true then (if bt338.2 = 0 then (some ((strOfNums bt338.1).toList == (strOfNums (rowB b)).toList)) else (some false)) else (some false)))) (fun k => by rw [merkhetlaw04_WireGets.j0, if_neg (by decide), if_pos rfl]) ?_
    refine Ev.bind hput (Ev.bind law04_fixed_ev ?_)
    exact Ev.congr (f := fun _ => some true) (fun k => by rw [if_pos rfl, if_pos rfl, beq_self_eq_true]) (Ev.now _)
end Go.Proofs.Ytdpodjgggicaoaa.Pure
