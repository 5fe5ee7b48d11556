/- Up from any span it is no further than there are spans: the plain law: what is told has no cycle. No conditions. -/
import Derived.Test.YtcgjplolehhpjaaPx4
import Derived.Test.YtcgjplolehhpjaaPC10a
import Derived.Test.YtcgjplolehhpjaaPC10d
import Derived.Test.YtcgjplolehhpjaaPC10f
namespace Go.Proofs.Ytcgjplolehhpjaa.Pure
open Go.RowKit Go.Proofs.Ytcgjplolehhpjaa.P Go.Proofs.Ytcgjplolehhpjaa.H Go.Proofs.YtcgjplolehhpjaaW.PrintWords Go.Proofs.YtcgjplolehhpjaaW.PrintLast

theorem depth_l1 (l : List S37) (q : List Int) (hq : okP q) (hl : q.length = l.length) (hn : l.length ≤ 60) (hc : ∀ a, a < (q.length : Int) → ¬ cyc q a) (i : Nat) (hi : i < q.length) (r : Bool) (hr : Ev (fun k => merkhetlaw10_ParentDepth.l0 k l q (q.length : Int) ((i + 1 : Nat) : Int)) r) :
    ∀ (d j : Nat), q.length - j = d → j ≤ q.length → Ev (fun k => merkhetlaw10_ParentDepth.l1 k l q (up q j (i : Int)) (j : Int) (q.length : Int) (i : Int)) r := by
  intro d
  induction d with
  | zero =>
    intro j hd hj
    obtain rfl : j = q.length := by omega
    have h1 := up_ends_lt hq hc (a := (i : Int)) (by omega)
    exact Ev.step_ (fun k => by rw [merkhetlaw10_ParentDepth.l1, if_neg (by omega), w64s i (by omega)]) hr
  | succ d ih =>
    intro j hd hj
    by_cases c : 0 ≤ up q j (i : Int)
    · have h1 := (okP_up hq j (a := (i : Int)) (by omega) (by omega)).2
      refine Ev.step_ (fun k => ?_) (ih (j + 1) (by omega) (by omega))
      rw [merkhetlaw10_ParentDepth.l1, if_pos c, if_neg (by omega), if_neg (by omega), if_pos c, if_pos h1, w64s j (by omega), up_succ]
      rw [show nx q (up q j (i : Int)) = rd q (up q j (i : Int)) by unfold nx rd; rw [if_pos c]]
    · exact Ev.step_ (fun k => by rw [merkhetlaw10_ParentDepth.l1, if_neg (by omega), w64s i (by omega)]) hr
theorem depth_l0 (l : List S37) (q : List Int) (hq : okP q) (hl : q.length = l.length) (hn : l.length ≤ 60) (hc : ∀ a, a < (q.length : Int) → ¬ cyc q a) : ∀ (d i : Nat), q.length - i = d → i ≤ q.length → Ev (fun k => merkhetlaw10_ParentDepth.l0 k l q (q.length : Int) (i : Int)) true := by
  intro d
  induction d with
  | zero =>
    intro i hd hi
    refine Ev.step_ (f := fun k => (merkhetlaw10_fixed.f k).bind fun t => some t) (fun k => by rw [merkhetlaw10_ParentDepth.l0, if_neg (by omega)]) ?_
    exact Ev.bind law10_fixed_ev (Ev.now _)
  | succ d ih =>
    intro i hd hi
    refine Ev.step_ (fun k => ?_) (depth_l1 l q hq hl hn hc i (by omega) true (ih (i + 1) (by omega) (by omega)) _ 0 rfl (Nat.zero_le _))
    rw [merkhetlaw10_ParentDepth.l0, if_pos (by omega)]
    rfl
theorem ParentDepth : merkhetlaw10_ParentDepth.Pure := by
  intro l hl hw
  refine Ev.rounds (g := fun k => merkhetlaw10_ParentDepth.f k l) ?_
  unfold merkhetlaw10_ParentDepth.f
  by_cases c : (l.length : Int) > 60
  · refine Ev.congr (fun k => by rw [if_pos c]) ?_
    exact Ev.bind law10_fixed_ev (Ev.now _)
  · refine Ev.congr (fun k => by rw [if_neg c]) ?_
    refine Ev.bind (parentOf_ev l (by omega) (fun s hs => ⟨(hw s hs).2.1, (hw s hs).2.2.1⟩)) ?_
    have hp := par0_ok (l.map fun s => s.f1) (l.map fun s => s.f2) (by simp)
    have hcl := cut_length (par0 (l.map fun s => s.f1) (l.map fun s => s.f2))
    have hpl : (par0 (l.map fun s => s.f1) (l.map fun s => s.f2)).length = l.length := by simp [par0]
    exact depth_l0 l _ (cut_ok hp) (by omega) (by omega) (fun a ha => cut_acyclic hp a (by omega)) _ 0 rfl (Nat.zero_le _)
end Go.Proofs.Ytcgjplolehhpjaa.Pure
