/- Lead and rest with the server's Dur are the client's; a pair within has a server no longer than its client. No conditions. -/
import Derived.Test.YtcgjplolehhpjaaSx7
import Derived.Test.YtcgjplolehhpjaaSC12w
import Derived.Test.YtcgjplolehhpjaaSC12f
namespace Go.Proofs.Ytcgjplolehhpjaa.Pure
open Go.RowKit Go.Proofs.Ytcgjplolehhpjaa.S Go.Proofs.Ytcgjplolehhpjaa.H Go.Proofs.YtcgjplolehhpjaaW.PrintWords Go.Proofs.YtcgjplolehhpjaaW.PrintLast

theorem fits_wrap (a b c d : Int) (ha : 0 ≤ a ∧ a < 1125899906842624) (hb : 0 ≤ b ∧ b < 1125899906842624) (hc : 0 ≤ c ∧ c ≤ 1125899906842624) (hd : 0 ≤ d ∧ d ≤ 1125899906842624) : wrap64 (wrap64 ((b - a) + (c - d - (b - a))) + d) = c ∧ b - a < 1125899906842624 ∧ -1125899906842624 < b - a ∧ c - d - (b - a) < 4503599627370496 ∧ -4503599627370496 < c - d - (b - a) := by
  unfold wrap64; omega
theorem RpcFits : merkhetlaw12_RpcFits.Pure := by
  intro l p q hl hw hp hq
  refine Ev.rounds (g := fun k => merkhetlaw12_RpcFits.f k l p q) ?_
  unfold merkhetlaw12_RpcFits.f
  refine Ev.bind (greatS_ev l) ?_
  by_cases c : greatS l = true
  · refine Ev.congr (fun k => by rw [if_pos c]) ?_
    exact Ev.bind law12_fixed_ev (Ev.now _)
  refine Ev.congr (fun k => by rw [if_neg c]) ?_
  have f := fineL_of hw (by simpa using c)
  refine Ev.bind (gaps_ev f p q) ?_
  have hwi := within_ev f p q
  by_cases hb : bothS l p q
  · have hg : gapsS l p q = ((rd_T37 l q).f6 - (rd_T37 l p).f6, (rd_T37 l p).f7 - (rd_T37 l q).f7 - ((rd_T37 l q).f6 - (rd_T37 l p).f6), true) := if_pos hb
    rw [hg] at hwi ⊢
    obtain ⟨⟨p0, p1, mp⟩, q0, q1, mq⟩ := hb
    have h1 := may_in (f.2 _ (rdS_mem p0 p1)) mp
    have h2 := may_in (f.2 _ (rdS_mem q0 q1)) mq
    have e := fits_wrap _ _ _ _ ⟨h1.1, h1.2.1⟩ ⟨h2.1, h2.2.1⟩ ⟨h1.2.2.1, h1.2.2.2⟩ ⟨h2.2.2.1, h2.2.2.2⟩
    refine Ev.congr (fun k => by rw [if_pos rfl, if_pos ⟨⟨p0, p1, q0, q1⟩, e⟩]) ?_
    refine Ev.bind law12_fixed_ev (Ev.congr (fun k => by rw [if_pos rfl]) ?_)
    refine Ev.bind hwi ?_
    by_cases cx : (rd_T37 l q).f6 - (rd_T37 l p).f6 ≥ 0 ∧ (rd_T37 l p).f7 - (rd_T37 l q).f7 - ((rd_T37 l q).f6 - (rd_T37 l p).f6) ≥ 0
    · have hle : (rd_T37 l q).f7 ≤ (rd_T37 l p).f7 := by omega
      refine Ev.congr (f := fun _ => some true) (fun k => ?_) (Ev.now _)
      show (if (true && (decide ((rd_T37 l q).f6 - (rd_T37 l p).f6 ≥ 0) && decide ((rd_T37 l p).f7 - (rd_T37 l q).f7 - ((rd_T37 l q).f6 - (rd_T37 l p).f6) ≥ 0))) = true then (if (rd_T37 l q).f7 ≤ (rd_T37 l p).f7 then some true else none) else some true) = some true
      rw [decide_eq_true cx.1, decide_eq_true cx.2, if_pos (show (true && (true && true)) = true from rfl), if_pos hle]
    · refine Ev.congr (f := fun _ => some true) (fun k => ?_) (Ev.now _)
      show (if (true && (decide ((rd_T37 l q).f6 - (rd_T37 l p).f6 ≥ 0) && decide ((rd_T37 l p).f7 - (rd_T37 l q).f7 - ((rd_T37 l q).f6 - (rd_T37 l p).f6) ≥ 0))) = true then (if (rd_T37 l q).f7 ≤ (rd_T37 l p).f7 then some true else none) else some true) = some true
      rw [if_neg (fun h => cx (by simpa using h))]
  · have hg : gapsS l p q = (0, 0, false) := if_neg hb
    rw [hg] at hwi ⊢
    refine Ev.congr (fun k => by rw [if_neg Bool.false_ne_true, if_pos ⟨rfl, rfl⟩]) ?_
    refine Ev.bind law12_fixed_ev (Ev.congr (fun k => by rw [if_pos rfl]) ?_)
    exact Ev.bind hwi (Ev.now _)
end Go.Proofs.Ytcgjplolehhpjaa.Pure
