/- A segment of any batches, cut off anywhere, reads as those of its batches that are whole, as many as its keep at most: for up to 8 batches of up to 4 spans (else the example alone). -/
import Derived.Test.YtdpodjgggicaoaaH33r
import Derived.Test.YtdpodjgggicaoaaSOC18nr
import Derived.Test.YtdpodjgggicaoaaSOx7r
set_option linter.unusedVariables false
set_option linter.unusedSimpArgs false
namespace Go.Proofs.Ytdpodjgggicaoaa.Pure
open Go.RowKit Go.Proofs.Ytdpodjgggicaoaa.SO Go.Proofs.YtdpodjgggicaoaaW.PrintWords Go.Proofs.YtdpodjgggicaoaaW.PrintLast Go.Proofs.Ytdpodjgggicaoaa.H
theorem segmentTorn_fix : Ev (fun k => merkhetlaw07_SegmentTorn_fix k) true := Ev.bind law07_fixed_ev (Ev.congr (fun k => if_pos rfl) (Ev.now _))
def laidX : List (List PS) → List Nat → List Int → List Nat × List Int × Bool
  | [], b, es => (b, es, false)
  | x :: r, b, es => if x.length > 4 then (b, es, true) else if greatP x = true then (b, es, true) else if (wirePut x).2 = 0 then laidX r (b ++ frX x) (es ++ [((b ++ frX x).length : Int)]) else (b, es, true)
def endsX : Nat → List (List PS) → List Int
  | _, [] => []
  | p, x :: r => ((p + (frX x).length : Nat) : Int) :: endsX (p + (frX x).length) r
theorem laidX_ev : ∀ (L : List (List PS)) (b : List Nat) (es : List Int), (∀ x ∈ L, ∀ p ∈ x, p.good) → isB b → b.length + 2412 * L.length ≤ 100000 →
    Ev (fun k => merkhetlaw07_SegmentTorn_go k (L.map (·.map mkS)) (rowB b) es) (rowB (laidX L b es).1, (laidX L b es).2) := by
  intro L
  induction L with
  | nil => intro b es _ _ _; exact Ev.now _
  | cons x r ih =>
    intro b es hg hb hl
    have gx := hg x List.mem_cons_self
    rw [List.length_cons] at hl
    refine Ev.congr (f := fun k => if ((x.map mkS).length : Int) > 4 then some (rowB b, es, true) else (merkhetlaw04_Great.f k (x.map mkS)).bind fun g => if g = true then some (rowB b, es, true) else (wire_Put.f k (x.map mkS)).bind fun p => if p.2 = 0 then ((frame_Put.f k p.1).bind fun y => if y.2 = 0 ∧ (rowB b ++ y.1).length ≤ 100000 then merkhetlaw07_SegmentTorn_go k (r.map (·.map mkS)) (rowB b ++ y.1) (es ++ [((rowB b ++ y.1).length : Int)]) else none) else some (rowB b, es, true)) (fun k => rfl) ?_
    rw [laidX]
    by_cases c1 : x.length > 4
    · rw [if_pos c1]
      exact Ev.congr (fun k => if_pos (by rw [List.length_map]; omega)) (Ev.now _)
    rw [if_neg c1]
    refine Ev.congr (fun k => if_neg (by rw [List.length_map]; omega)) (Ev.bind (great_ev x) ?_)
    cases c2 : greatP x with
    | true =>
      rw [if_pos rfl]
      exact Ev.congr (fun k => if_pos rfl) (Ev.now _)
    | false =>
      rw [if_neg Bool.false_ne_true]
      obtain ⟨s1, s2⟩ := great_small c2
      have gh : ∀ p ∈ x, p.h.length < 4611686018427387904 ∧ p.n.length < 4611686018427387904 := fun p hp => by have := s2 p hp; omega
      refine Ev.congr (fun k => if_neg Bool.false_ne_true) (Ev.bind (wire_Put_ev x gx gh) ?_)
      by_cases c3 : (wirePut x).2 = 0
      · rw [if_pos c3]
        have hx : okX x := ⟨gx, c3⟩
        have hf := frame_Put_ev (bodyX x) (bodyX_isB hx)
        rw [frX_put hx] at hf
        have hfl := frX_length hx
        have hbl := (bodyX_length hx).2
        have he : rowB b ++ rowB (framePut (bodyX x)).1 = rowB (b ++ frX x) := (rowB_append _ _).symm
        refine Ev.congr (fun k => if_pos c3) (Ev.bind hf ?_)
        refine Ev.congr (f := fun k => merkhetlaw07_SegmentTorn_go k (r.map (·.map mkS)) (rowB (b ++ frX x)) (es ++ [((b ++ frX x).length : Int)])) (fun k => ?_) (ih (b ++ frX x) _ (fun y hy => hg y (List.mem_cons_of_mem _ hy)) (isB_append hb (frX_isB hx)) (by rw [List.length_append]; omega))
        rw [he, rowB_length, if_pos ⟨rfl, by rw [List.length_append]; omega⟩]
      · rw [if_neg c3]
        exact Ev.congr (fun k => if_neg c3) (Ev.now _)
theorem laidX_done : ∀ (L : List (List PS)) (b : List Nat) (es : List Int), (∀ x ∈ L, ∀ p ∈ x, p.good) → (laidX L b es).2.2 = false →
    (∀ x ∈ L, okX x) ∧ (laidX L b es).1 = b ++ (L.map frX).flatten ∧ (laidX L b es).2.1 = es ++ endsX b.length L := by
  intro L
  induction L with
  | nil => intro b es _ _; exact ⟨fun x hx => absurd hx (by simp), by simp [laidX], by simp [laidX, endsX]⟩
  | cons x r ih =>
    intro b es hg h
    rw [laidX] at h ⊢
    by_cases c1 : x.length > 4
    · rw [if_pos c1] at h; exact absurd h (by simp)
    rw [if_neg c1] at h ⊢
    by_cases c2 : greatP x = true
    · rw [if_pos c2] at h; exact absurd h (by simp)
    rw [if_neg c2] at h ⊢
    by_cases c3 : (wirePut x).2 = 0
    · rw [if_pos c3] at h ⊢
      have hx : okX x := ⟨hg x List.mem_cons_self, c3⟩
      obtain ⟨i1, i2, i3⟩ := ih _ _ (fun y hy => hg y (List.mem_cons_of_mem _ hy)) h
      refine ⟨fun y hy => ?_, ?_, ?_⟩
      · rcases List.mem_cons.1 hy with rfl | hy
        · exact hx
        · exact i1 y hy
      · rw [i2, List.map_cons, List.flatten_cons, List.append_assoc]
      · rw [i3, List.length_append, endsX, List.append_assoc]; rfl
    · rw [if_neg c3] at h; exact absurd h (by simp)
theorem ends_none (cut kk : Int) : ∀ (L : List (List PS)) (p m : Nat) (g : Int), (cut < ((p : Nat) : Int) ∨ kk ≤ (m : Int)) → merkhetlaw07_SegmentTorn_ends cut kk (endsX p L) m g = (m, g) := by
  intro L
  induction L with
  | nil => intro p m g _; rfl
  | cons x r ih =>
    intro p m g h
    rw [endsX, merkhetlaw07_SegmentTorn_ends, if_neg (by omega)]
    exact ih _ _ _ (by omega)
theorem ends_whole (cut : Nat) : ∀ (c : Nat) (L : List (List PS)) (p m : Nat), merkhetlaw07_SegmentTorn_ends (cut : Int) ((m + c : Nat) : Int) (endsX p L) m (p : Int) = (m + (wholeX cut c p L).1, ((wholeX cut c p L).2 : Int)) := by
  intro c
  induction c with
  | zero =>
    intro L p m
    rw [ends_none _ _ L p m _ (by omega), wholeX]; rfl
  | succ c ih =>
    intro L p m
    cases L with
    | nil => rw [endsX, merkhetlaw07_SegmentTorn_ends, wholeX]; rfl
    | cons x r =>
      rw [endsX, merkhetlaw07_SegmentTorn_ends, wholeX]
      by_cases h : p + (frX x).length ≤ cut
      · rw [if_pos (by omega), if_pos h, show m + (c + 1) = (m + 1) + c by omega, ih]
        simp only [Prod.mk.injEq, and_true]; omega
      · rw [if_neg (by omega), if_neg h]
        exact ends_none _ _ r _ _ _ (by omega)
theorem gets_ev : ∀ (n : Nat) (L : List (List PS)), (∀ x ∈ L, okX x) → Ev (fun k => merkhetlaw07_SegmentTorn_gets k (((L.take n).map bodyX).map rowB) (L.map (·.map mkS))) true := by
  intro n
  induction n with
  | zero => intro L _; exact Ev.congr (fun k => by rw [List.take_zero]; rfl) (Ev.now _)
  | succ n ih =>
    intro L hL
    cases L with
    | nil => exact Ev.congr (fun k => rfl) (Ev.now _)
    | cons x r =>
      have hx := hL x List.mem_cons_self
      have hp := okX_parts hx
      have w := wire_Get_ev (bodyX x) (bodyX_isB hx) (by have := (bodyX_length hx).2; omega)
      rw [show wireGet (bodyX x) = .ok x from wireGet_put hx.good hx.may] at w
      refine Ev.congr (f := fun k => (wire_Get.f k (rowB (bodyX x))).bind fun p => if p.2 = 0 ∧ p.1.length = (x.map mkS).length ∧ 0 < (x.map mkS).length ∧ p.1.head? = (x.map mkS).head? then merkhetlaw07_SegmentTorn_gets k (((r.take n).map bodyX).map rowB) (r.map (·.map mkS)) else none) (fun k => rfl) (Ev.bind w ?_)
      exact Ev.congr (fun k => if_pos ⟨rfl, rfl, by rw [List.length_map]; omega, rfl⟩) (ih r (fun y hy => hL y (List.mem_cons_of_mem _ hy)))
theorem plain_rows (l0 : List (List S77)) (h : ∀ x0_ ∈ l0, (∀ x1_ ∈ x0_, ((Lit.int .u64 x1_.f0).wf = true ∧ (Lit.int .u64 x1_.f1).wf = true ∧ (Lit.int .u64 x1_.f2).wf = true ∧ (Lit.int .u8 x1_.f3).wf = true ∧ x1_.f4.size ≤ maxLen ∧ x1_.f5.size ≤ maxLen ∧ (Lit.int .i64 x1_.f6).wf = true ∧ (Lit.int .i64 x1_.f7).wf = true))) : ∃ L : List (List PS), l0 = L.map (·.map mkS) ∧ ∀ x ∈ L, ∀ p ∈ x, p.good := by
  induction l0 with
  | nil => exact ⟨[], rfl, fun x hx => absurd hx (by simp)⟩
  | cons x r ih =>
    obtain ⟨L, rfl, hL⟩ := ih (fun y hy => h y (List.mem_cons_of_mem _ hy))
    obtain ⟨l, rfl, hl⟩ := plain_spans x (h x List.mem_cons_self)
    refine ⟨l :: L, rfl, fun y hy => ?_⟩
    rcases List.mem_cons.1 hy with rfl | hy
    · exact hl
    · exact hL y hy
theorem SegmentTorn : merkhetlaw07_SegmentTorn.Pure := by
  intro l0 a1 a2 _ hw0 hw1 hw2
  obtain ⟨L, rfl, hg⟩ := plain_rows l0 hw0
  have h1 : 0 ≤ a1 ∧ a1 ≤ 255 := by
    simp [Lit.wf, IntKind.min, IntKind.max, IntKind.signed, IntKind.bits] at hw1; omega
  have h2 : 0 ≤ a2 ∧ a2 ≤ 65535 := by
    simp [Lit.wf, IntKind.min, IntKind.max, IntKind.signed, IntKind.bits] at hw2; omega
  apply Ev.rounds
  unfold merkhetlaw07_SegmentTorn.f
  refine Ev.congr (fun k => if_pos ⟨h1, h2⟩) ?_
  by_cases c0 : ((L.map (·.map mkS)).length : Int) > 8
  · exact Ev.congr (fun k => if_pos c0) segmentTorn_fix
  refine Ev.congr (fun k => if_neg c0) ?_
  have hlen : L.length ≤ 8 := by rw [List.length_map] at c0; omega
  obtain ⟨a, rfl⟩ := Int.eq_ofNat_of_zero_le h1.1
  obtain ⟨t, rfl⟩ := Int.eq_ofNat_of_zero_le h2.1
  have hm16 : a % 16 < 16 := Nat.mod_lt _ (by decide)
  have hkk : 1 + Int.tmod (a : Int) 16 = ((0 + (1 + a % 16) : Nat) : Int) := by
    rw [show Int.tmod (a : Int) 16 = ((a % 16 : Nat) : Int) from rfl]; omega
  rw [hkk, Nat.zero_add]
  generalize a % 16 = m at hm16
  have hhd : Ev (fun _ : Nat => segment_Head.f 9 ((1 + m : Nat) : Int)) (rowB (segHead 9 (1 + m)), (0 : Int)) := by
    have h := segment_Head_nat 9 (by decide) ((1 + m : Nat) : Int)
    have e : segPut 9 ((1 + m : Nat) : Int) = (segHead 9 (1 + m), 0) := by unfold segPut; rw [if_pos (by omega), Int.toNat_natCast]
    rw [e] at h
    exact ⟨0, fun k _ => h⟩
  refine Ev.bind hhd (Ev.congr (fun k => if_pos ⟨rfl, by rw [rowB_length, segHead_length]⟩) ?_)
  have hlg := laidX_ev L (segHead 9 (1 + m)) [] hg (segHead_isB _ _) (by rw [segHead_length]; omega)
  refine Ev.bind hlg ?_
  have hdn := laidX_done L (segHead 9 (1 + m)) [] hg
  generalize laidX L (segHead 9 (1 + m)) [] = q at hdn
  obtain ⟨b, es, dn⟩ := q
  cases dn with
  | true => exact Ev.congr (fun k => if_pos rfl) segmentTorn_fix
  | false =>
  obtain ⟨hok, hb, he⟩ := hdn rfl
  have hb : b = segHead 9 (1 + m) ++ (L.map frX).flatten := hb
  have he : es = endsX (segHead 9 (1 + m)).length L := by simpa using he
  rw [segHead_length] at he
  refine Ev.congr (fun k => if_neg Bool.false_ne_true) ?_
  have hbB : isB b := by
    rw [hb]
    refine isB_append (segHead_isB _ _) (fun y hy => ?_)
    obtain ⟨f, hf, hy⟩ := List.mem_flatten.1 hy
    obtain ⟨x, hx, rfl⟩ := List.mem_map.1 hf
    exact frX_isB (hok x hx) y hy
  have hcut : merkhetlaw07_SegmentTorn_cut (t : Int) (rowB b) = min t b.length := by unfold merkhetlaw07_SegmentTorn_cut; rw [Int.toNat_natCast, rowB_length]
  unfold merkhetlaw07_SegmentTorn_torn
  simp only []
  rw [hcut, rowB_take]
  have hcl : min t b.length ≤ b.length := Nat.min_le_right _ _
  have ht : min t b.length ≤ 65535 := Nat.le_trans (Nat.min_le_left _ _) (by omega)
  generalize min t b.length = cut at hcl ht
  have htl : (b.take cut).length = cut := by rw [List.length_take]; omega
  refine Ev.bind (segment_Read_ev (b.take cut) (isB_take hbB _) (by omega)) ?_
  by_cases c14 : cut < 14
  · refine Ev.congr (fun k => (if_pos c14).trans (if_pos ?_)) segmentTorn_fix
    unfold segRead segBegin
    rw [htl, if_pos c14]
    rfl
  refine Ev.congr (fun k => if_neg c14) ?_
  have hbg : segBegin (b.take cut) = (((9 : Nat) : Int), ((1 + m : Nat) : Int), b.take cut, 0) := segBegin_more 9 (1 + m) (by decide) (by omega) (by omega) _ (by rw [List.take_take, Nat.min_eq_left (by omega), hb]; exact List.take_left' (segHead_length _ _))
  have hrows := segRows_cut cut (1 + m) L (segHead 9 (1 + m)) hok (by rw [segHead_length]; omega)
  rw [← hb, segHead_length] at hrows
  have hrd : segRead (b.take cut) = (((9 : Nat) : Int), ((1 + m : Nat) : Int), (L.take (wholeX cut (1 + m) 14 L).1).map bodyX, ((wholeX cut (1 + m) 14 L).2 : Int), ((((L.take (wholeX cut (1 + m) 14 L).1).map bodyX).length : Int) == ((1 + m : Nat) : Int)), 0) := by
    unfold segRead
    rw [hbg]
    simp only [if_true, Int.toNat_natCast, hrows]
  have hen := ends_whole cut (1 + m) L 14 0
  rw [Nat.zero_add, Nat.zero_add] at hen
  rw [show (((14 : Nat) : Int)) = 14 from rfl] at hen
  have hwl := wholeX_le cut (1 + m) 14 L
  rw [hrd, he, hen]
  generalize wholeX cut (1 + m) 14 L = q at hwl
  have hql : (((L.take q.1).map bodyX).map rowB).length = q.1 := by rw [List.length_map, List.length_map, List.length_take]; omega
  have hql2 : ((L.take q.1).map bodyX).length = q.1 := by rw [List.length_map, List.length_take]; omega
  refine Ev.congr (fun k => if_pos ⟨⟨rfl, hql, rfl, by rw [hql2]⟩, by rw [hql, List.length_map]; omega⟩) ?_
  exact Ev.bind (gets_ev q.1 L hok) segmentTorn_fix
end Go.Proofs.Ytdpodjgggicaoaa.Pure
