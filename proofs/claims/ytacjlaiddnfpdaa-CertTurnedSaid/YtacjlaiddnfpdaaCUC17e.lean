/- Chains of layer 17: which are taken. -/
import Derived.Test.YtacjlaiddnfpdaaCUx4
import Derived.Test.YtacjlaiddnfpdaaCUC15y
import Derived.Test.YtacjlaiddnfpdaaCUC17b
import Derived.Test.YtacjlaiddnfpdaaH20
import Derived.Test.YtacjlaiddnfpdaaCUC16b
set_option linter.unusedVariables false
namespace Go.Proofs.Ytacjlaiddnfpdaa.CU
open Go.RowKit Go.Proofs.Ytacjlaiddnfpdaa.H Go.Proofs.YtacjlaiddnfpdaaW.PrintWords Go.Proofs.YtacjlaiddnfpdaaW.PrintLast Go.Proofs.YtacjlaiddnfpdaaW.PrintMore
def chEq (x y : S48) : Bool := (x.f0 == y.f0 && (x.f1 == y.f1 && (x.f2 == y.f2 && ((x.f3.f0 == y.f3.f0 && (x.f3.f1 == y.f3.f1)) && (x.f4 == y.f4)))))
def chNx (l2 : List S48) (i : Nat) : S48 := if i + 1 < l2.length then rd_T48 l2 ((i + 1 : Nat) : Int) else rd_T48 l2 0
def chGo (l1 l2 : List S48) : Nat → Int → Option Bool
  | 0, s => some (decide (s < 0))
  | d + 1, s => if (l1.any fun e => chEq e (rd_T48 l2 ((l2.length - (d + 1) : Nat) : Int))) = true then
      (if ((l2.take (l2.length - (d + 1))).any fun c => c.f0 == (rd_T48 l2 ((l2.length - (d + 1) : Nat) : Int)).f0) = true then some false
      else if (rd_T48 l2 ((l2.length - (d + 1) : Nat) : Int)).f1 = (chNx l2 (l2.length - (d + 1))).f0 then chGo l1 l2 d (wrap64 (s + (rd_T48 l2 ((l2.length - (d + 1) : Nat) : Int)).f2)) else some false)
    else some false
def hasE (l : List S48) (x : S48) : Bool := l.any fun e => chEq e x
theorem hasE_some {l : List S48} {x : S48} (h : hasE l x = true) : ∃ e ∈ l, e.f0 = x.f0 := by
  obtain ⟨e, he, hx⟩ := List.any_eq_true.1 h
  unfold chEq at hx
  rw [Bool.and_eq_true] at hx
  exact ⟨e, he, beq_iff_eq.1 hx.1⟩
theorem eqE_comm (x e : S48) : (x.f0 == e.f0 && (x.f1 == e.f1 && (x.f2 == e.f2 && ((x.f3.f0 == e.f3.f0 && (x.f3.f1 == e.f3.f1)) && (x.f4 == e.f4))))) = chEq e x := by
  unfold chEq
  rw [BEq.comm (a := x.f0), BEq.comm (a := x.f1), BEq.comm (a := x.f2), BEq.comm (a := x.f3.f0), BEq.comm (a := x.f3.f1), BEq.comm (a := x.f4)]
theorem rdE (l : List S48) (j : Nat) (hlt : j < l.length) : rd_T48 l (j : Int) = l[j] := by show l.getD _ _ = _; rw [Int.toNat_natCast, List.getD_eq_getElem?_getD, List.getElem?_eq_getElem hlt]; rfl
theorem indexE_l0 (l : List S48) (x : S48) (hl : l.length < 1000000000) : ∀ (d i : Nat), i + d = l.length → ∃ r : Int, Ev (fun k => api_Edge_52.l0 k l (l.length : Int) (i : Int) x.f0 x.f1 x.f2 x.f3.f0 x.f3.f1 x.f4) r ∧ decide (r ≥ 0) = hasE (l.drop i) x := by
  intro d
  induction d with
  | zero =>
    intro i hi
    refine ⟨-1, Ev.step (f := fun _ => some (-1)) (fun k => by rw [api_Edge_52.l0, if_neg (by omega)]) (Ev.now _), ?_⟩
    rw [List.drop_of_length_le (by omega)]
    rfl
  | succ d ih =>
    intro i hi
    have hlt : i < l.length := by omega
    have e2 := rdE l i hlt
    have e3 := eqE_comm x l[i]
    have e4 : hasE (l.drop i) x = (chEq l[i] x || hasE (l.drop (i + 1)) x) := by rw [List.drop_eq_getElem_cons hlt]; rfl
    cases c : chEq l[i] x with
    | true =>
      rw [c] at e3
      refine ⟨(i : Int), Ev.step (f := fun _ => some (i : Int)) (fun k => by rw [api_Edge_52.l0, if_pos (by omega), if_pos (by omega), if_pos (by omega), e2, if_pos e3]) (Ev.now _), ?_⟩
      rw [e4, c, Bool.true_or]
      exact decide_eq_true (by omega)
    | false =>
      rw [c] at e3
      obtain ⟨r, h1, h2⟩ := ih (i + 1) (by omega)
      refine ⟨r, Ev.step (fun k => by rw [api_Edge_52.l0, if_pos (by omega), if_pos (by omega), if_pos (by omega), e2, if_neg (by rw [e3]; decide), w64t i (by omega)]) h1, ?_⟩
      rw [e4, c, Bool.false_or, h2]
theorem has_ev (l : List S48) (x : S48) (hl : l.length < 1000000000) : Ev (fun k => api_Edge_37.f k l x.f0 x.f1 x.f2 x.f3.f0 x.f3.f1 x.f4) (hasE l x) := by
  obtain ⟨r, h1, h2⟩ := indexE_l0 l x hl l.length 0 (by omega)
  rw [List.drop_zero] at h2
  unfold api_Edge_37.f
  refine Ev.bind (show Ev (fun k => api_Edge_52.f k l x.f0 x.f1 x.f2 x.f3.f0 x.f3.f1 x.f4) r from h1) ?_
  rw [← h2]
  exact Ev.now _
theorem nx_eq (c : List S48) (i : Nat) (hi : i < c.length) : rd_T48 c (Int.tmod ((i + 1 : Nat) : Int) (c.length : Int)) = chNx c i := by
  have e : Int.tmod ((i + 1 : Nat) : Int) (c.length : Int) = (((i + 1) % c.length : Nat) : Int) := rfl
  rw [e]
  unfold chNx
  by_cases h : i + 1 < c.length
  · rw [if_pos h, Nat.mod_eq_of_lt h]
  · rw [if_neg h, show i + 1 = c.length by omega, Nat.mod_self]; rfl
theorem chain_l0 {n : Int} {l c : List S48} (hl : l.length < 1000000000) (hm : mayL n l) (hc : c.length < 1000000000) : ∀ (d i : Nat) (held : List Bool) (s : Int), i + d = c.length → held.length = n.toNat → (∀ v : Int, 0 ≤ v → v < n → held.getD v.toNat false = (c.take i).any fun e => e.f0 == v) →
    ∃ r, chGo l c d s = some r ∧ Ev (fun k => cert_Chain.l0 k l c held s c (c.length : Int) (i : Int)) r := by
  intro d
  induction d with
  | zero =>
    intro i held s hi hh hv
    exact ⟨_, rfl, Ev.step (f := fun _ => some (decide (s < 0))) (fun k => by rw [cert_Chain.l0, if_neg (by omega)]) (Ev.now _)⟩
  | succ d ih =>
    intro i held s hi hh hv
    have hlt : i < c.length := by omega
    have e1 : c.length - (d + 1) = i := by omega
    have e2 := rdE c i hlt
    have ew := w64t i (by omega)
    have en := nx_eq c i hlt
    have t0 : 0 ≤ Int.tmod ((i + 1 : Nat) : Int) (c.length : Int) := by rw [show Int.tmod ((i + 1 : Nat) : Int) (c.length : Int) = (((i + 1) % c.length : Nat) : Int) from rfl]; omega
    have t1 : Int.tmod ((i + 1 : Nat) : Int) (c.length : Int) < (c.length : Int) := by
      rw [show Int.tmod ((i + 1 : Nat) : Int) (c.length : Int) = (((i + 1) % c.length : Nat) : Int) from rfl]
      have := Nat.mod_lt (i + 1) (show c.length > 0 by omega)
      omega
    unfold chGo
    rw [e1, e2]
    have hE := has_ev l c[i] hl
    have hst : ∀ k, cert_Chain.l0 (k + 1) l c held s c (c.length : Int) (i : Int) = (api_Edge_37.f k l c[i].f0 c[i].f1 c[i].f2 c[i].f3.f0 c[i].f3.f1 c[i].f4).bind fun t158 => (if t158 = true then (if c[i].f1 = (chNx c i).f0 then (if 0 ≤ c[i].f0 then (if c[i].f0 < (held.length : Int) then (if rdOf false held c[i].f0 = true then (some false) else (cert_Chain.l0 k l c (held.set ((c[i].f0) : Int).toNat true) (wrap64 (s + c[i].f2)) c (c.length : Int) ((i + 1 : Nat) : Int))) else (none)) else (none)) else (some false)) else (some false)) := fun k => by
      rw [cert_Chain.l0, if_pos (by omega), if_pos (by omega), if_pos (by omega), if_neg (by omega), ew, if_pos t0, if_pos t1, e2, en]
    cases h1 : hasE l c[i] with
    | false =>
      rw [h1] at hE
      refine ⟨false, by rw [if_neg (by rw [show (l.any fun e => chEq e c[i]) = false from h1]; decide)], ?_⟩
      exact Ev.step hst (Ev.bind hE (Ev.congr (f := fun _ => some false) (fun k => if_neg (by decide)) (Ev.now _)))
    | true =>
      rw [h1] at hE
      rw [if_pos (show (l.any fun e => chEq e c[i]) = true from h1)]
      obtain ⟨e, he, he0⟩ := hasE_some h1
      have hb := mayL_at hm he
      rw [he0] at hb
      have hg := hv c[i].f0 hb.1 hb.2.1
      have hr : rdOf false held c[i].f0 = (c.take i).any fun e => e.f0 == c[i].f0 := hg
      by_cases h2 : c[i].f1 = (chNx c i).f0
      · cases h3 : (c.take i).any fun e => e.f0 == c[i].f0 with
        | true =>
          rw [h3] at hr
          refine ⟨false, by rw [if_pos rfl], ?_⟩
          exact Ev.step hst (Ev.bind hE (Ev.congr (f := fun _ => some false) (fun k => by rw [if_pos rfl, if_pos h2, if_pos hb.1, if_pos (by omega), if_pos hr]) (Ev.now _)))
        | false =>
          rw [h3] at hr
          rw [if_neg (by decide), if_pos h2]
          obtain ⟨r, g1, g2⟩ := ih (i + 1) (held.set c[i].f0.toNat true) (wrap64 (s + c[i].f2)) (by omega) (by rw [List.length_set]; exact hh) (fun v v0 v1 => by
            rw [getD_setB _ _ _ (by omega), List.take_succ_eq_append_getElem hlt, List.any_append, List.any_cons, List.any_nil, Bool.or_false, ← hv v v0 v1]
            by_cases hvv : v.toNat = c[i].f0.toNat
            · rw [if_pos hvv, beq_iff_eq.2 (show c[i].f0 = v by omega), Bool.or_true]
            · rw [if_neg hvv, beq_eq_false_iff_ne.2 (show c[i].f0 ≠ v by omega), Bool.or_false])
          refine ⟨r, g1, ?_⟩
          exact Ev.step hst (Ev.bind hE (Ev.congr (fun k => by rw [if_pos rfl, if_pos h2, if_pos hb.1, if_pos (by omega), if_neg (by rw [hr]; decide)]) g2))
      · refine ⟨false, ?_, Ev.step hst (Ev.bind hE (Ev.congr (f := fun _ => some false) (fun k => by rw [if_pos rfl, if_neg h2]) (Ev.now _)))⟩
        by_cases h3 : ((c.take i).any fun e => e.f0 == c[i].f0) = true
        · rw [if_pos h3]
        · rw [if_neg h3, if_neg h2]
theorem go_true {l c : List S48} : ∀ (d i : Nat) (s : Int), i + d = c.length → chGo l c d s = some true → ∀ j (hj : j < c.length), i ≤ j → hasE l c[j] = true ∧ ((c.take j).any fun e => e.f0 == c[j].f0) = false := by
  intro d
  induction d with
  | zero => intro i s hi _ j hj hij; omega
  | succ d ih =>
    intro i s hi h j hj hij
    have e1 : c.length - (d + 1) = i := by omega
    unfold chGo at h
    rw [e1, rdE c i (by omega)] at h
    by_cases h1 : (l.any fun e => chEq e (c[i]'(by omega))) = true
    · rw [if_pos h1] at h
      by_cases h2 : ((c.take i).any fun e => e.f0 == (c[i]'(by omega)).f0) = true
      · rw [if_pos h2] at h; cases h
      · rw [if_neg h2] at h
        by_cases h3 : (c[i]'(by omega)).f1 = (chNx c i).f0
        · rw [if_pos h3] at h
          rcases Nat.lt_or_ge i j with hl | hl
          · exact ih (i + 1) _ (by omega) h j hj (by omega)
          · have e : j = i := by omega
            subst e
            exact ⟨h1, by simpa using h2⟩
        · rw [if_neg h3] at h; cases h
    · rw [if_neg h1] at h; cases h
theorem go_short {n : Int} {l c : List S48} (hm : mayL n l) (s : Int) (h : chGo l c c.length s = some true) : c.length ≤ n.toNat := by
  have hg := go_true c.length 0 s (by omega) h
  have h0 := hm.1
  have := apart_le n.toNat (c.map fun e => e.f0) (fun x hx => by
    obtain ⟨e, he, rfl⟩ := List.mem_map.1 hx
    obtain ⟨j, hj, rfl⟩ := List.getElem_of_mem he
    obtain ⟨e, he, he0⟩ := hasE_some (hg j hj (by omega)).1
    have hb := mayL_at hm he
    rw [he0] at hb
    omega) (List.pairwise_iff_getElem.2 fun i j hi hj hij => by
    rw [List.length_map] at hi hj
    rw [List.getElem_map, List.getElem_map]
    intro he
    have := (hg j hj (by omega)).2
    rw [List.any_eq_false] at this
    exact this c[i] (by rw [List.mem_iff_getElem]; exact ⟨i, by rw [List.length_take]; omega, by rw [List.getElem_take]⟩) (beq_iff_eq.2 he))
  rw [List.length_map] at this
  exact this
open Classical in
theorem chain_r {n : Int} {l c : List S48} (hm : mayL n l) (hl : l.length ≤ 1000) (hc : c.length ≤ 1000) : ∃ r, Ev (fun k => cert_Chain.f k n l c) r ∧ (r = true ↔ c.length ≠ 0 ∧ chGo l c c.length 0 = some true) := by
  have jt : Ev (fun k => cert_Chain.j0 k n l c true) false := Ev.step (f := fun _ => some false) (fun k => by rw [cert_Chain.j0, if_pos rfl]) (Ev.now _)
  have h0 := hm.1
  have hn : n ≤ 32 := by have := hm.2.n32; omega
  have e1' : ∀ k, cert_Chain.f k n l c = (if (c.length : Int) = 0 then (cert_Chain.j0 k n l c true) else (cert_Chain.j0 k n l c (decide ((c.length : Int) > n)))) := fun k => by
    unfold cert_Chain.f
    rw [relaxMay_eq, Option.bind_some]
    exact if_pos (decide_eq_true hm)
  by_cases h1 : c.length = 0
  · exact ⟨false, Ev.congr (fun k => (e1' k).trans (if_pos (by omega))) jt, ⟨(fun h => by cases h), (fun h => absurd h1 h.1)⟩⟩
  obtain ⟨r, g1, g2⟩ := chain_l0 (n := n) (l := l) (c := c) (by omega) hm (by omega) c.length 0 (List.replicate n.toNat false) 0 (by omega) (by simp) (fun v v0 v1 => by
    rw [List.take_zero, List.any_nil, List.getD_eq_getElem?_getD, List.getElem?_replicate]
    split <;> rfl)
  refine ⟨r, ?_, ⟨fun h => ⟨h1, by rw [g1, h]⟩, fun h => by have := g1.symm.trans h.2; injection this⟩⟩
  by_cases h2 : (c.length : Int) > n
  · have : r = false := by
      cases r with
      | false => rfl
      | true => have := go_short hm 0 g1; omega
    rw [this]
    exact Ev.congr (fun k => by rw [e1' k, if_neg (by omega), decide_eq_true h2]) jt
  · refine Ev.congr (f := fun k => cert_Chain.j0 k n l c false) (fun k => by rw [e1' k, if_neg (by omega), decide_eq_false h2]) ?_
    exact Ev.step (fun k => by rw [cert_Chain.j0, if_neg (by decide), if_pos h0, if_pos (by omega)]; rfl) g2
theorem go_nx {l c : List S48} : ∀ (d i : Nat) (s : Int), i + d = c.length → chGo l c d s = some true → ∀ j (hj : j < c.length), i ≤ j → c[j].f1 = (chNx c j).f0 := by
  intro d
  induction d with
  | zero => intro i s hi _ j hj hij; omega
  | succ d ih =>
    intro i s hi h j hj hij
    have e1 : c.length - (d + 1) = i := by omega
    unfold chGo at h
    rw [e1, rdE c i (by omega)] at h
    by_cases h1 : (l.any fun e => chEq e (c[i]'(by omega))) = true
    · rw [if_pos h1] at h
      by_cases h2 : ((c.take i).any fun e => e.f0 == (c[i]'(by omega)).f0) = true
      · rw [if_pos h2] at h; cases h
      · rw [if_neg h2] at h
        by_cases h3 : (c[i]'(by omega)).f1 = (chNx c i).f0
        · rw [if_pos h3] at h
          rcases Nat.lt_or_ge i j with hl | hl
          · exact ih (i + 1) _ (by omega) h j hj (by omega)
          · have e : j = i := by omega
            subst e; exact h3
        · rw [if_neg h3] at h; cases h
    · rw [if_neg h1] at h; cases h
theorem chNx_eq (c : List S48) (j : Nat) (hj : j < c.length) : chNx c j = c[if j + 1 < c.length then j + 1 else 0]'(by split <;> omega) := by
  unfold chNx
  by_cases h : j + 1 < c.length
  · rw [if_pos h, rdE c (j + 1) h]; congr 1; rw [if_pos h]
  · rw [if_neg h, show (0 : Int) = ((0 : Nat) : Int) from rfl, rdE c 0 (by omega)]; congr 1; rw [if_neg h]
theorem go_loop {n : Int} {l c : List S48} (hm : mayL n l) (h : isLoop n l c) : ∀ (d i : Nat), i + d = c.length → chGo l c d (sumW (fun e : S48 => e.f2) (c.take i)) = some true := by
  have h0 := hm.1
  have h32 := hm.2.n32
  have hcl := h.le
  intro d
  induction d with
  | zero =>
    intro i hi
    show some (decide _) = _
    rw [List.take_of_length_le (by omega), decide_eq_true h.neg]
  | succ d ih =>
    intro i hi
    have hlt : i < c.length := by omega
    have e1 : c.length - (d + 1) = i := by omega
    have hb := mayL_at hm (h.mem _ (List.getElem_mem hlt))
    have hs : wrap64 (sumW (fun e : S48 => e.f2) (c.take i) + c[i].f2) = sumW (fun e : S48 => e.f2) (c.take (i + 1)) := by
      rw [sumW_take _ _ _ hlt]
      have h1 := sumW_abs (fun e : S48 => e.f2) 4503599627370496 (c.take i) (fun e he => by have := mayL_at hm (h.mem e (List.mem_of_mem_take he)); omega)
      have h2 : ((c.take i).length : Int) ≤ 32 := by rw [List.length_take]; omega
      show wrap64 (sumW (fun e : S48 => e.f2) (c.take i) + c[i].f2) = sumW (fun e : S48 => e.f2) (c.take i) + c[i].f2
      generalize sumW (fun e : S48 => e.f2) (c.take i) = z at h1 ⊢
      generalize ((c.take i).length : Int) = y at h1 h2
      unfold wrap64
      omega
    unfold chGo
    rw [e1, rdE c i hlt, if_pos (List.any_eq_true.2 ⟨c[i], h.mem _ (List.getElem_mem hlt), by unfold chEq; simp⟩), if_neg ?_, if_pos ?_, hs]
    · exact ih (i + 1) (by omega)
    · rw [chNx_eq c i hlt]; exact h.rg.nx i hlt
    · intro ha
      obtain ⟨e, he, hq⟩ := List.any_eq_true.1 ha
      obtain ⟨j, hj, rfl⟩ := List.getElem_of_mem he
      rw [List.length_take] at hj
      rw [List.getElem_take] at hq
      have := h.rg.dis j i (by omega) hlt (beq_iff_eq.1 hq)
      omega
theorem chain_loop {n : Int} {l c : List S48} (hm : mayL n l) (hl : l.length ≤ 1000) (h : isLoop n l c) : Ev (fun k => cert_Chain.f k n l c) true := by
  have h32 := hm.2.n32
  have hcl := h.le
  have hne := h.ne
  obtain ⟨r, h1, h2⟩ := chain_r (c := c) hm hl (by omega)
  have hg := go_loop hm h c.length 0 (by omega)
  rw [List.take_zero] at hg
  rw [h2.2 ⟨by omega, hg⟩] at h1
  exact h1
/-- Twice, it isn't. -/
theorem chain_twice {n : Int} {l c : List S48} (hm : mayL n l) (hl : l.length ≤ 1000) (hc : c.length ≤ 500) (hne : 0 < c.length) : Ev (fun k => cert_Chain.f k n l (c ++ c)) false := by
  obtain ⟨r, h1, h2⟩ := chain_r (c := c ++ c) hm hl (by rw [List.length_append]; omega)
  cases r with
  | false => exact h1
  | true =>
    exfalso
    obtain ⟨_, hg⟩ := h2.1 rfl
    have hlen : (c ++ c).length = c.length + c.length := List.length_append
    have h3 := (go_true (c ++ c).length 0 0 (by omega) hg c.length (by omega) (by omega)).2
    rw [List.take_left, List.any_eq_false] at h3
    refine h3 c[0] (List.getElem_mem hne) ?_
    rw [List.getElem_append_right (Nat.le_refl _)]
    simp
/-- Without its last edge, it isn't. -/
theorem chain_short {n : Int} {l c : List S48} (hm : mayL n l) (hl : l.length ≤ 1000) (h : isLoop n l c) : Ev (fun k => cert_Chain.f k n l (c.take (c.length - 1))) false := by
  have h32 := hm.2.n32
  have hcl := h.le
  have hne := h.ne
  have hlen : (c.take (c.length - 1)).length = c.length - 1 := by rw [List.length_take]; omega
  obtain ⟨r, h1, h2⟩ := chain_r (c := c.take (c.length - 1)) hm hl (by omega)
  cases r with
  | false => exact h1
  | true =>
    exfalso
    obtain ⟨hz, hg⟩ := h2.1 rfl
    rw [hlen] at hz
    have hj : c.length - 2 < (c.take (c.length - 1)).length := by omega
    have h3 := go_nx (c.take (c.length - 1)).length 0 0 (by omega) hg (c.length - 2) hj (by omega)
    rw [chNx_eq _ _ hj, List.getElem_take, List.getElem_take] at h3
    have h4 := h.rg.nx (c.length - 2) (by omega)
    have e4 : (if c.length - 2 + 1 < c.length then c.length - 2 + 1 else 0) = c.length - 1 := by rw [if_pos (by omega)]; omega
    have e3 : (if c.length - 2 + 1 < (c.take (c.length - 1)).length then c.length - 2 + 1 else 0) = 0 := by rw [if_neg (by omega)]
    have h5 := h.rg.dis (c.length - 1) 0 (by omega) hne (by
      have h6 : c[c.length - 2].f1 = c[c.length - 1].f0 := by
        rw [show c[c.length - 2].f1 = _ from h4]
        congr 1
        congr 1
      have h7 : c[c.length - 2].f1 = c[0].f0 := by
        rw [show c[c.length - 2].f1 = _ from h3]
        congr 1
        congr 1
      show c[c.length - 1].f0 = c[0].f0
      rw [← h6, h7])
    omega
end Go.Proofs.Ytacjlaiddnfpdaa.CU
