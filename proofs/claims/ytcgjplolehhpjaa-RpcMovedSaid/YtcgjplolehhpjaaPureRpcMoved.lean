/- Moved: with the server's start the lead grows and the rest shrinks; with both starts both stay. No conditions. -/
import Derived.Test.YtcgjplolehhpjaaRx10
import Derived.Test.YtcgjplolehhpjaaRC12a
import Derived.Test.YtcgjplolehhpjaaRC12f
import Derived.Test.YtcgjplolehhpjaaH17
namespace Go.Proofs.Ytcgjplolehhpjaa.Pure
open Go.RowKit Go.Proofs.Ytcgjplolehhpjaa.R Go.Proofs.Ytcgjplolehhpjaa.H Go.Proofs.YtcgjplolehhpjaaW.PrintWords Go.Proofs.YtcgjplolehhpjaaW.PrintLast

def mvS (s : S37) (y : Int) : S37 := ⟨s.f0, s.f1, s.f2, s.f3, s.f4, s.f5, wrap64 (s.f6 + y), s.f7⟩
def mvL (l : List S37) (q y : Int) : List S37 := l.set q.toNat (mvS (rd_T37 l q) y)
theorem mvL_length (l : List S37) (q y : Int) : (mvL l q y).length = l.length := by simp [mvL]
theorem rd_mv_self {l : List S37} {q : Int} (y : Int) (h0 : 0 ≤ q) (h1 : q < (l.length : Int)) : rd_T37 (mvL l q y) q = mvS (rd_T37 l q) y := by
  show (mvL l q y).getD q.toNat _ = _
  unfold mvL
  rw [List.getD_eq_getElem?_getD, List.getElem?_set_self (by omega)]; rfl
theorem rd_mv_ne {l : List S37} {p q : Int} (y : Int) (h0 : 0 ≤ q) (h1 : 0 ≤ p) (hne : p ≠ q) : rd_T37 (mvL l q y) p = rd_T37 l p := by
  show (mvL l q y).getD p.toNat _ = l.getD p.toNat _
  unfold mvL
  rw [List.getD_eq_getElem?_getD, List.getD_eq_getElem?_getD, List.getElem?_set_ne (by omega)]
theorem wrap_in (x : Int) : -9223372036854775808 ≤ wrap64 x ∧ wrap64 x ≤ 9223372036854775807 := by unfold wrap64; omega
theorem fine_mv {l : List S37} (f : fineL l) {q : Int} (y : Int) (h0 : 0 ≤ q) (h1 : q < (l.length : Int)) : fineL (mvL l q y) := by
  refine ⟨by rw [mvL_length]; exact f.1, fun s hs => ?_⟩
  rcases List.mem_or_eq_of_mem_set hs with h | h
  · exact f.2 s h
  · rw [h]
    have g := f.2 _ (rdS_mem h0 h1)
    have hw := wrap_in ((rd_T37 l q).f6 + y)
    exact ⟨g.k, g.h, g.n, hw.1, hw.2, g.t0, g.t1⟩
theorem wrapM (a y : Int) (h0 : 0 ≤ a) (h1 : a < 1125899906842624) (y0 : -1125899906842624 ≤ y) (y1 : y ≤ 1125899906842624) : wrap64 (a + y) = a + y := by unfold wrap64; omega
theorem wrapN (a b c d y : Int) (ha : 0 ≤ a ∧ a < 1125899906842624) (hb : 0 ≤ b ∧ b < 1125899906842624) (hc : 0 ≤ c ∧ c ≤ 1125899906842624) (hd : 0 ≤ d ∧ d ≤ 1125899906842624) (y0 : -1125899906842624 ≤ y) (y1 : y ≤ 1125899906842624) : wrap64 (b - a + y) = b + y - a ∧ wrap64 (c - d - (b - a) - y) = c - d - (b + y - a) := by unfold wrap64; omega
theorem moved_off (l : List S37) (p q y : Int) : Ev (fun k => merkhetlaw12_RpcMoved.j0 k l y true p q) true :=
  Ev.step_ (f := fun k => (merkhetlaw12_fixed.f k).bind fun t => some t) (fun k => by rw [merkhetlaw12_RpcMoved.j0, if_pos rfl]) (Ev.bind law12_fixed_ev (Ev.now _))
/-- Both moved: both stay. -/
theorem moved_j2 {l : List S37} (f : fineL l) {p q y : Int} (y0 : -1125899906842624 ≤ y) (y1 : y ≤ 1125899906842624) (hb : bothS l p q) (hne : p ≠ q) : Ev (fun k => merkhetlaw12_RpcMoved.j2 k y ((rd_T37 l q).f6 - (rd_T37 l p).f6) ((rd_T37 l p).f7 - (rd_T37 l q).f7 - ((rd_T37 l q).f6 - (rd_T37 l p).f6)) (mvL l q y) false p q) true := by
  obtain ⟨⟨p0, p1, mp⟩, q0, q1, mq⟩ := hb
  have f1 := fine_mv f (q := q) y q0 q1
  have p1' : p < ((mvL l q y).length : Int) := by rw [mvL_length]; exact p1
  have f2 := fine_mv f1 (q := p) y p0 p1'
  have hp := may_in (f.2 _ (rdS_mem p0 p1)) mp
  have hq := may_in (f.2 _ (rdS_mem q0 q1)) mq
  refine Ev.step_ (f := fun k => (rpc_Gaps.f k (mvL (mvL l q y) p y) p q).bind fun bt225 => ((merkhetlaw12_fixed.f k).bind fun t228 => (if t228 = true then (if bt225.2.2 = true then (if bt225.1 = (rd_T37 l q).f6 - (rd_T37 l p).f6 then (some (bt225.2.1 == (rd_T37 l p).f7 - (rd_T37 l q).f7 - ((rd_T37 l q).f6 - (rd_T37 l p).f6))) else (some false)) else (some true)) else (some false)))) (fun k => by rw [merkhetlaw12_RpcMoved.j2, if_neg Bool.false_ne_true, if_pos p0, if_pos p1']; rfl) ?_
  refine Ev.bind (gaps_ev f2 p q) (Ev.bind law12_fixed_ev ?_)
  refine Ev.congr (fun k => by rw [if_pos rfl]) ?_
  unfold gapsS
  by_cases c : bothS (mvL (mvL l q y) p y) p q
  · rw [if_pos c]
    have e1 : rd_T37 (mvL (mvL l q y) p y) p = mvS (rd_T37 l p) y := by rw [rd_mv_self y p0 p1', rd_mv_ne y q0 p0 hne]
    have e2 : rd_T37 (mvL (mvL l q y) p y) q = mvS (rd_T37 l q) y := by rw [rd_mv_ne y p0 q0 (fun h => hne h.symm), rd_mv_self y q0 q1]
    rw [e1, e2]
    refine Ev.congr (f := fun _ => some true) (fun k => ?_) (Ev.now _)
    have e3 : (mvS (rd_T37 l q) y).f6 - (mvS (rd_T37 l p) y).f6 = (rd_T37 l q).f6 - (rd_T37 l p).f6 := by
      show wrap64 ((rd_T37 l q).f6 + y) - wrap64 ((rd_T37 l p).f6 + y) = _
      rw [wrapM _ y hp.1 hp.2.1 y0 y1, wrapM _ y hq.1 hq.2.1 y0 y1]; omega
    rw [e3, if_pos rfl, if_pos rfl]
    exact congrArg some (beq_self_eq_true _)
  · rw [if_neg c]
    exact Ev.congr (f := fun _ => some true) (fun k => by rw [if_neg Bool.false_ne_true]) (Ev.now _)
theorem RpcMoved : merkhetlaw12_RpcMoved.Pure := by
  intro l p q y hl hw hp hq hy
  refine Ev.rounds (g := fun k => merkhetlaw12_RpcMoved.f k l p q y) ?_
  unfold merkhetlaw12_RpcMoved.f
  refine Ev.bind (greatS_ev l) ?_
  by_cases c : greatS l = true
  · exact Ev.congr (fun k => by rw [if_pos c]) (moved_off l p q y)
  refine Ev.congr (fun k => by rw [if_neg c]) ?_
  have f := fineL_of hw (by simpa using c)
  have hn := f.1
  by_cases y1 : y > 1125899906842624
  · exact Ev.congr (fun k => by rw [if_pos y1]) (moved_off l p q y)
  refine Ev.congr (fun k => by rw [if_neg y1]) ?_
  by_cases y0 : y < -1125899906842624
  · exact Ev.congr (fun k => by rw [if_pos y0]) (moved_off l p q y)
  refine Ev.congr (fun k => by rw [if_neg y0]) ?_
  by_cases hne : p = q
  · rw [show (p == q) = true from beq_iff_eq.mpr hne]
    exact moved_off l p q y
  rw [show (p == q) = false from beq_eq_false_iff_ne.mpr hne]
  refine Ev.step_ (fun k => by rw [merkhetlaw12_RpcMoved.j0, if_neg Bool.false_ne_true]) ?_
  refine Ev.bind (gaps_ev f p q) ?_
  by_cases hb : bothS l p q
  case neg =>
    unfold gapsS
    rw [if_neg hb]
    refine Ev.congr (fun k => by rw [if_neg Bool.false_ne_true]) ?_
    refine Ev.step_ (f := fun k => (merkhetlaw12_fixed.f k).bind fun t => if t = true then some (!false) else some false) (fun k => by rw [merkhetlaw12_RpcMoved.j1, if_pos rfl]) ?_
    exact Ev.bind law12_fixed_ev (Ev.now _)
  unfold gapsS
  rw [if_pos hb]
  have h2 := moved_j2 f (y := y) (by omega) (by omega) hb hne
  obtain ⟨⟨p0, p1, mp⟩, q0, q1, mq⟩ := id hb
  have hp := may_in (f.2 _ (rdS_mem p0 p1)) mp
  have hq := may_in (f.2 _ (rdS_mem q0 q1)) mq
  refine Ev.congr (fun k => by rw [if_pos rfl, if_neg (by omega), if_neg (by omega), if_neg (by omega), decide_eq_false (by omega)]) ?_
  refine Ev.step_ (fun k => by rw [merkhetlaw12_RpcMoved.j1, if_neg Bool.false_ne_true]) ?_
  refine Ev.congr (f := fun k => (rpc_Gaps.f k (mvL l q y) p q).bind fun bt220 => (if bt220.2.2 = true then (if bt220.1 = (wrap64 (((rd_T37 l q).f6 - (rd_T37 l p).f6) + y)) then (merkhetlaw12_RpcMoved.j2 k y ((rd_T37 l q).f6 - (rd_T37 l p).f6) ((rd_T37 l p).f7 - (rd_T37 l q).f7 - ((rd_T37 l q).f6 - (rd_T37 l p).f6)) (mvL l q y) (bt220.2.1 != (wrap64 (((rd_T37 l p).f7 - (rd_T37 l q).f7 - ((rd_T37 l q).f6 - (rd_T37 l p).f6)) - y))) p q) else (merkhetlaw12_RpcMoved.j2 k y ((rd_T37 l q).f6 - (rd_T37 l p).f6) ((rd_T37 l p).f7 - (rd_T37 l q).f7 - ((rd_T37 l q).f6 - (rd_T37 l p).f6)) (mvL l q y) true p q)) else (merkhetlaw12_RpcMoved.j2 k y ((rd_T37 l q).f6 - (rd_T37 l p).f6) ((rd_T37 l p).f7 - (rd_T37 l q).f7 - ((rd_T37 l q).f6 - (rd_T37 l p).f6)) (mvL l q y) false p q))) (fun k => ?_) ?_
  · show (if (0 + l.length) < 1759218604441 then _ else _) = _
    rw [if_pos (by omega)]
    show (if 0 ≤ q then if q < (l.length : Int) then _ else _ else _) = _
    rw [if_pos q0, if_pos q1]
    rfl
  refine Ev.bind (gaps_ev (fine_mv f y q0 q1) p q) ?_
  unfold gapsS
  by_cases c : bothS (mvL l q y) p q
  · rw [if_pos c, rd_mv_ne y q0 p0 hne, rd_mv_self y q0 q1]
    have e := wrapN _ _ _ _ y ⟨hp.1, hp.2.1⟩ ⟨hq.1, hq.2.1⟩ ⟨hp.2.2.1, hp.2.2.2⟩ ⟨hq.2.2.1, hq.2.2.2⟩ (by omega) (by omega)
    have e6 : (mvS (rd_T37 l q) y).f6 = (rd_T37 l q).f6 + y := wrapM _ y hq.1 hq.2.1 (by omega) (by omega)
    have e7 : (mvS (rd_T37 l q) y).f7 = (rd_T37 l q).f7 := rfl
    refine Ev.congr (fun k => ?_) h2
    rw [e.1, e.2, e6, e7, if_pos rfl, if_pos rfl]
    rw [show ∀ a : Int, (a != a) = false from fun a => by simp]
  · rw [if_neg c]
    exact Ev.congr (fun k => by rw [if_neg Bool.false_ne_true]) h2
end Go.Proofs.Ytcgjplolehhpjaa.Pure
