/- A map of rows of places, by the places of their parents; what it tells. No conditions. -/
import Derived.Test.YthlekphkibeflaaH20
import Derived.Test.YthlekphkibeflaaH13
import Derived.Maps.OwnRows
import Derived.Maps.GroupsBeside
import Derived.Maps.OwnSet
set_option linter.unusedVariables false
namespace Go.Proofs.Ythlekphkibeflaa.H
open Go Go.RowKit Go.Maps Go.ChangeShapes Go.Proofs.YthlekphkibeflaaW.PrintWords Go.Proofs.YthlekphkibeflaaW.PrintLast Go.Proofs.YthlekphkibeflaaW.PrintMore
/-- Of the first i places those whose parent it is. -/
def kidsI (p : List Int) (i : Nat) (a : Int) : List Int := ((List.range i).filter fun j => decide (p.getD j 0 = a)).map fun j : Nat => (j : Int)
theorem kidsI_zero (p : List Int) (a : Int) : kidsI p 0 a = [] := rfl
theorem kidsI_succ (p : List Int) (i : Nat) (a : Int) : kidsI p (i + 1) a = if p.getD i 0 = a then kidsI p i a ++ [(i : Int)] else kidsI p i a := by
  unfold kidsI
  rw [List.range_succ, List.filter_append, List.map_append]
  by_cases c : p.getD i 0 = a
  · rw [if_pos c, List.filter_cons_of_pos (by simpa using c), List.filter_nil]; rfl
  · rw [if_neg c, List.filter_cons_of_neg (by simpa using c), List.filter_nil, List.map_nil, List.append_nil]
theorem kidsI_all (p : List Int) (a : Int) : kidsI p p.length a = (kidsN p a).map fun j : Nat => (j : Int) := rfl
theorem kidsI_length_le (p : List Int) (i : Nat) (a : Int) : (kidsI p i a).length ≤ i := by
  unfold kidsI
  rw [List.length_map]
  exact Nat.le_trans (List.length_filter_le _ _) (by rw [List.length_range]; exact Nat.le_refl _)
def datI (zs : List Int) : DataW Unit := if zs = [] then .nil else .slice (lits .i64 zs) []
structure GMap (p : List Int) (i : Nat) (D : DataW Unit) : Prop where
  isMap : IsMap D
  at_ : ∀ a, D.atKey (.int .i64 a) .nil = datI (kidsI p i a)
theorem GMap_nil (p : List Int) : GMap p 0 (.map []) := ⟨isMap_empty, fun a => rfl⟩
theorem lits_inj {xs ys : List Int} (h : lits (H := Unit) .i64 xs = lits .i64 ys) : xs = ys := by
  unfold lits at h
  exact (List.map_inj_right (fun a b e => by cases e; rfl)).1 h
theorem datI_row {w : World} {base : Nat} {e : TypeId} {v : Value} {zs l : List Int} (ho : w.ownsInts base e .i64 v zs) (h : datI l = rowDatum (H := Unit) .i64 v zs) : zs = l := by
  rcases ho.datum (H := Unit) with ⟨h1, rfl⟩ | h1
  · rw [h1] at h
    unfold datI at h
    by_cases c : l = []
    · exact c.symm
    · rw [if_neg c] at h; cases h
  · rw [h1] at h
    unfold datI at h
    by_cases c : l = []
    · rw [if_pos c] at h; cases h
    · rw [if_neg c] at h
      injection h with h2
      exact (lits_inj h2).symm
theorem GMap_step {p : List Int} {i : Nat} {D : DataW Unit} (h : GMap p i D) {w : World} {base : Nat} {e : TypeId} {v' : Value} (ho : w.ownsInts base e .i64 v' (kidsI p i (p.getD i 0) ++ [(i : Int)])) : GMap p (i + 1) (D.put (.int .i64 (p.getD i 0)) (rowDatum .i64 v' (kidsI p i (p.getD i 0) ++ [(i : Int)]))) := by
  have hk : WideAt.IsKeyLit (.int .i64 (p.getD i 0)) := by simp [WideAt.IsKeyLit]
  refine ⟨h.isMap.put _ _, fun a => ?_⟩
  by_cases c : p.getD i 0 = a
  · subst c
    rw [atKey_put_same h.isMap hk, ho.datum_pos (by simp), kidsI_succ, if_pos rfl]
    unfold datI
    rw [if_neg (by simp)]
  · rw [atKey_put_other (by simpa using fun e => c e.symm), h.at_ a, kidsI_succ, if_neg c]
/-- A row of numbers of the call's own, as it is read. -/
theorem ownsInts_reads {w : World} {base : Nat} {e : TypeId} {v : Value} {zs : List Int} (h : w.ownsInts base e .i64 v zs) : ∃ A c, v = .slice A zs.length c ∧ zs.length ≤ c ∧ Kd.C (Kd.int .i64) w A zs.length zs := by
  have hrow := h.1
  rcases h.1.2 with ⟨rfl, h0⟩ | ⟨g, cap, cur, rfl, _, hh, hn, hcap, _, _⟩
  · obtain rfl := List.length_eq_zero_iff.1 h0
    exact ⟨none, 0, rfl, Nat.le_refl _, Kd.C_of_reads (d := (0 : Int)) (h1 := fun _ => rfl) ⟨rfl, by simp, fun h => absurd h (by simp)⟩⟩
  · refine ⟨_, cap, rfl, hn, Kd.C_of_reads (d := (0 : Int)) (h1 := fun _ => rfl) ⟨rfl, by unfold maxLen at hcap; omega, fun _ => ⟨_, rfl, fun j hj => ?_⟩⟩⟩
    rw [add_plain, hrow.cellAt j (by omega)]
    simp [List.getElem?_eq_getElem hj, List.getD_eq_getElem?_getD]
/-- The look-up at a map whose block stays. -/
theorem groups_look {P : Program} {t k E e : TypeId} {base b n : Nat} {D : DataW Unit} {W0 : World} (K : Keyed P k) (ht : P.underlying t = some (.map k E)) (hz : ∀ W, (zeroValue E).run P W = .ok (.slice none 0 0) W) (h : W0.ownsGroups P k base e .i64 b n D) {key : Value} {kl : Lit} (hkey : keyOf P k key = some kl) :
    ∀ W : World, W.heap[b]? = W0.heap[b]? → ∃ v zs, D.atKey kl .nil = rowDatum .i64 v zs ∧ W0.ownsInts base e .i64 v zs ∧ (Instr.lookup t (.map (some b)) key false).run P W = .ok v W := by
  intro W hW
  obtain ⟨es, clock, hb, F, hs, rfl, hbb, hlen, hap⟩ := h
  rcases Maps.fit_look false K ht (hz W) (hW.trans hb) F hkey with ⟨hrun, hno, hat⟩ | ⟨e0, y, hm0, h3, hrun, hR, hat, _⟩
  · exact ⟨.slice none 0 0, [], hat _, World.ownsInts_nil _ _ _ _, hrun⟩
  · obtain ⟨zs, ho, rfl⟩ := rowElem_inv hR
    exact ⟨e0.val, zs, hat _, ho, hrun⟩
/-- What the map tells of a place, wherever it is asked. -/
theorem kids_look {P : Program} {t k E e : TypeId} {base b n : Nat} {D : DataW Unit} {W0 : World} {p : List Int} (K : Keyed P k) (hk : P.underlying k = some (.int .i64)) (ht : P.underlying t = some (.map k E)) (hz : ∀ W, (zeroValue E).run P W = .ok (.slice none 0 0) W) (h : W0.ownsGroups P k base e .i64 b n D) (hD : GMap p p.length D) (a : Int) (ha : (Lit.int .i64 a).wf = true) (W : World) (hW : Below W0.heap.size W0 W) :
    ∃ A c, (kidsI p p.length a).length ≤ c ∧ (Instr.lookup t (.map (some b)) (.int .i64 a) false).run P W = .ok (.slice A (kidsI p p.length a).length c) W ∧ Kd.C (Kd.int .i64) W0 A (kidsI p p.length a).length (kidsI p p.length a) := by
  have hb : W.heap[b]? = W0.heap[b]? := by
    obtain ⟨es, clock, hb, _⟩ := h
    exact hW.block b (Array.getElem?_eq_some_iff.1 hb).1
  obtain ⟨v, zs, h1, h2, h3⟩ := groups_look K ht hz h (keyOf_int_mk hk ha) W hb
  have hz' : zs = kidsI p p.length a := datI_row h2 (by rw [← hD.at_ a]; exact h1)
  subst hz'
  obtain ⟨A, c, rfl, hc, hC⟩ := ownsInts_reads h2
  exact ⟨A, c, hc, h3, hC⟩
open Go.MapKept in
/-- One value for all worlds in which the map's block is the same. -/
theorem int_look {P : Program} {t k E : TypeId} {b : Nat} (hk : P.underlying k = some (.int .i64)) (ht : P.underlying t = some (.map k E)) (hz : ∀ W, (zeroValue E).run P W = .ok (.slice none 0 0) W) {es : Array MapEntry} {clock : Nat} (hkeys : ∀ e ∈ es.toList, ∃ l, keyOf P k e.key = some l) {x : Int} (hx : (Lit.int .i64 x).wf = true) :
    ∃ v, ∀ W : World, W.heap[b]? = some (.map es clock) → (Instr.lookup t (.map (some b)) (.int .i64 x) false).run P W = .ok v W := by
  have isK : ∀ {v : Value} {l : Lit}, keyOf P k v = some l → IsKey (.int .i64) v := fun {v l} h => by
    rw [show keyOf P k v = mapKey P k v by simp [keyOf, hk]] at h
    obtain ⟨d', hd', h1, h2⟩ := Go.WideShapes.mapKey_isKey h
    rw [hk] at hd'
    cases hd'
    exact h1
  have hkey := keyOf_int_mk hk hx
  rcases findNow_spec (isK hkey) es.toList 0 (fun y hy => by obtain ⟨l, hl⟩ := hkeys y hy; exact isK hl) with ⟨h1, _⟩ | ⟨j, e0, h1, _, _⟩
  · exact ⟨.slice none 0 0, fun W hb => by simp [Instr.lookup, run_underlying ht, MapKept.run_getObj_map hb, (int_keyed hk).check W _ hkey, run_findKey hk h1, hz W, Result.andThen]⟩
  · exact ⟨e0.val, fun W hb => by simp [Instr.lookup, run_underlying ht, MapKept.run_getObj_map hb, (int_keyed hk).check W _ hkey, run_findKey hk h1, Result.andThen]⟩
theorem groups_at {P : Program} {t k E e : TypeId} {base b n : Nat} {D : DataW Unit} {w : World} (hk : P.underlying k = some (.int .i64)) (ht : P.underlying t = some (.map k E)) (hz : ∀ W, (zeroValue E).run P W = .ok (.slice none 0 0) W) (h : w.ownsGroups P k base e .i64 b n D) (hn : n < maxLen) {x : Int} (hx : (Lit.int .i64 x).wf = true) :
    ∃ es clock v zs, w.heap[b]? = some (.map es clock) ∧ (∀ W : World, W.heap[b]? = some (.map es clock) → (Instr.lookup t (.map (some b)) (.int .i64 x) false).run P W = .ok v W) ∧ D.atKey (.int .i64 x) .nil = rowDatum .i64 v zs ∧ w.ownsInts base e .i64 v zs ∧ zs.length ≤ n ∧ w.groupBack P t k base e .i64 b n D (.int .i64 x) (.int .i64 x) v := by
  have h0 := h
  obtain ⟨es, clock, hb, F, _⟩ := h0
  obtain ⟨v0, hv0⟩ := int_look (b := b) (clock := clock) hk ht hz F.keys hx
  obtain ⟨v, zs, h1, h2, h3, h4, h5⟩ := h.at (int_keyed hk) ht (hz w) hn (keyOf_int_mk hk hx)
  have e : v0 = v := by
    have := (hv0 w hb).symm.trans h1
    injection this
  subst e
  exact ⟨es, clock, v0, zs, hb, hv0, h2, h3, h4, h5⟩
theorem row_not {w : World} {base e size n B t : Nat} {v : Value} {xs : List Value} {cells : Array Value} (h : w.ownsRow base e size v n xs) (hb : w.heap[B]? = some (.cells cells t (0, 0))) (ht : t ≠ e) : some B ≠ v.ownBlock := by
  rcases h.2 with ⟨rfl, _⟩ | ⟨g, cap, cur, rfl, _, hgb, _⟩
  · simp [Value.ownBlock]
  · intro e'
    obtain rfl : B = g := by simpa [Value.ownBlock] using e'
    have := hb.symm.trans hgb
    simp at this
    exact ht this.2
theorem row_base {w : World} {base e size n B : Nat} {v : Value} {xs : List Value} (h : w.ownsRow base e size v n xs) (hb : B < base) : some B ≠ v.ownBlock := by
  rcases h.2 with ⟨rfl, _⟩ | ⟨g, cap, cur, rfl, hg, _⟩
  · simp [Value.ownBlock]
  · intro e'
    obtain rfl : B = g := by simpa [Value.ownBlock] using e'
    omega
/-- A look-up at the operation, whose run is known. -/
theorem wpList_lookup_run {P : Program} (w : World) {ops : Array Oper} {rest : List Oper} {o : Oper} {a : Act} {Q : Exit → Act → World → Prop} (hg : o.guard = none) (m x : Operand) (t : TypeId) (hop : o.op = Op.lookup t m x false) {mv key v : Value} (hm : a.eval m = mv) (hx : a.eval x = key)
    (hrun : (Instr.lookup t mv key false).run P w = .ok v w) (hK : wpList P ops Q rest (a.put o.dst v) w) : wpList P ops Q (o :: rest) a w := by
  refine wpList_plain hg fun K' hK' => ?_
  unfold Oper.wp
  simp [execOp, hop, hm, hx, hrun, Result.andThen]
  exact hK' _ _ hK
end Go.Proofs.Ythlekphkibeflaa.H
