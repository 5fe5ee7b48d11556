/- A row of one element in a block; a store of a whole element of an own row, within a region that draws; a row turned round. No conditions. -/
import Derived.Test.YtacjlaiddnfpdaaH13
import Derived.Test.YtacjlaiddnfpdaaWLast
set_option linter.unusedVariables false
namespace Go.Proofs.Ytacjlaiddnfpdaa.H
open Go.RowKit Go.Proofs.YtacjlaiddnfpdaaW.PrintWords Go.Proofs.YtacjlaiddnfpdaaW.PrintMore Go.Proofs.YtacjlaiddnfpdaaW.PrintLast
theorem C_blk1 {α : Type} (d : Kd α) {w : World} {g t : Nat} {x : α} {cs : List Value} (hl : cs.length = d.sz) (hk : d.K w x cs) (hb : w.heap[g]? = some (.cells cs.toArray t (0, 0))) : Kd.C d w (some ⟨g, 0, none⟩) 1 [x] := by
  refine ⟨rfl, by decide, fun _ => ⟨_, rfl, fun j p hj => ?_⟩⟩
  have hj0 : j = 0 := by
    rcases Nat.eq_zero_or_pos j with h | h
    · exact h
    · rw [List.getElem?_eq_none (by simp only [List.length_singleton]; omega)] at hj; cases hj
  subst hj0
  obtain rfl : x = p := by simpa using hj
  refine ⟨cs, hl, hk, fun i u hu => ?_⟩
  rw [Nat.zero_mul, Nat.zero_add, add_plain, blk_cell hb]
  simpa using hu
theorem R_store_step {α : Type} (d : Kd α) {P : Program} {ops : Array Oper} {o : Oper} {a : Act} {Q : Exit → Act → World → Prop} {Kc : Act → World → Prop} {w0 W : World} (base : Nat) (hw : Region.wanted o (yielded ops a.tmps) = true) (hN : o.dst = none) (t : TypeId) (p x : Operand) (ho : o.op = .store t p x) (e : TypeId) {g n cap : Nat} (i : Int) (xs : List α) (x' : α) (u : Value) (seg : List Value) (ok : Nat → Prop)
    (haddr : a.eval p = .pointer (some ⟨g, i.toNat * d.sz, none⟩)) (hx : a.eval x = u) (hu : u.cells.toList = seg) (ht : (P.info? t).map (·.size) = some seg.length) (h1 : ∀ q ∈ seg, q.oneCell' = true)
    (HO : d.R e W base ok (.slice (some ⟨g, 0, none⟩) n cap) xs) (h0 : 0 ≤ i) (hi : i < n) (hsz : seg.length = d.sz) (hM : d.M W base (fun _ => False) x' seg) (HB : Below base w0 W) (hbase : base ≤ W.heap.size) (z : α)
    (h : ∀ w1, d.R e w1 base ok (.slice (some ⟨g, 0, none⟩) n cap) (xs.set i.toNat x') → Below base w0 w1 → W.grownBy w1 (some g) → Kc a w1) :
    if Region.wanted o (yielded ops a.tmps) = true then Oper.wp P o a W Kc Q else Kc (a.put none undef) W := by
  obtain ⟨c, hcl, _, hcc, _⟩ := Kd.R_elem HO z i h0 hi
  have hsg : c.take 0 ++ seg ++ c.drop (0 + seg.length) = seg := by
    rw [List.take_zero, List.nil_append, List.drop_of_length_le (by omega), List.append_nil]
  obtain ⟨hrow, hg⟩ := Kd.R_seg (okp := fun _ => False) (j := 0) (seg := seg) HO i h0 hi hcl hcc (by omega) (x' := x') (by rw [hsg]; exact hM) (fun k hk => hk.elim)
  rw [Nat.add_zero] at hrow hg
  have hnx : n = xs.length := (Kd.R_reads' HO).1
  have hB : Below base w0 (W.setCells g (i.toNat * d.sz) seg) := HB.grown hg hbase (fun k hk => Kd.R_base HO k (by rw [← hk]; simp [Value.ownBlock]))
  refine skip_ (w1 := W.setCells g (i.toNat * d.sz) seg) hw hN ?_ (h _ hrow hB hg)
  obtain ⟨_, inner, hown, hr⟩ := HO
  have hil : i.toNat < n := by omega
  have hrun : (Instr.storeAt t (.pointer (some ⟨g, i.toNat * d.sz, none⟩)) u).run P W = .ok () (W.setCells g (i.toNat * d.sz) seg) := by
    rcases hown.2 with ⟨hv, _⟩ | ⟨g', cap', cur, hv, hb, hh, hnc, hcm, hcs, _⟩
    · cases hv
    injection hv with ha _ hc
    injection ha with ha
    injection ha with hg'
    subst hg'; subst hc
    refine run_store_run t u seg hh hu ht ?_ h1
    have h2 : i.toNat * d.sz + d.sz ≤ n * d.sz := by rw [← Nat.succ_mul]; exact Nat.mul_le_mul_right _ hil
    have h3 : n * d.sz ≤ cap * d.sz := Nat.mul_le_mul_right _ (by omega)
    omega
  unfold execOp
  simp only [ho, haddr, hx, Sem.run_bind, Sem.run_pure, Result.andThen_ok, hrun]
/-- So many of a row's elements, from both its ends, are turned round. -/
def revS {α : Type} (z : α) (l : List α) (i : Nat) : List α := (List.range l.length).map fun p => if p < i ∨ l.length - i ≤ p then l.getD (l.length - 1 - p) z else l.getD p z
theorem revS_len {α : Type} (z : α) (l : List α) (i : Nat) : (revS z l i).length = l.length := by simp [revS]
theorem revS_at {α : Type} (z : α) (l : List α) (i p : Nat) (h : p < l.length) : (revS z l i).getD p z = if p < i ∨ l.length - i ≤ p then l.getD (l.length - 1 - p) z else l.getD p z := by
  rw [List.getD_eq_getElem?_getD, List.getElem?_eq_getElem (by rw [revS_len]; exact h)]
  simp [revS]
theorem revS_zero {α : Type} (z : α) (l : List α) : revS z l 0 = l := by
  apply List.ext_getElem (revS_len z l 0)
  intro p h1 h2
  simp only [revS, List.getElem_map, List.getElem_range]
  rw [if_neg (by omega), List.getD_eq_getElem?_getD, List.getElem?_eq_getElem h2]; rfl
theorem revS_end {α : Type} (z : α) (l : List α) (i : Nat) (h : l.length ≤ 2 * i + 1) : revS z l i = l.reverse := by
  apply List.ext_getElem (by rw [revS_len, List.length_reverse])
  intro p h1 h2
  rw [revS_len] at h1
  simp only [revS, List.getElem_map, List.getElem_range]
  rw [List.getElem_reverse]
  by_cases c : p < i ∨ l.length - i ≤ p
  · rw [if_pos c, List.getD_eq_getElem?_getD, List.getElem?_eq_getElem (show l.length - 1 - p < l.length by omega)]; rfl
  · rw [if_neg c, List.getD_eq_getElem?_getD, List.getElem?_eq_getElem h1]
    show l[p] = l[l.length - 1 - p]
    congr 1; omega
theorem revS_step {α : Type} (z : α) (l : List α) (i : Nat) (h : 2 * i + 1 < l.length) : ((revS z l i).set i ((revS z l i).getD (l.length - 1 - i) z)).set (l.length - 1 - i) ((revS z l i).getD i z) = revS z l (i + 1) := by
  rw [revS_at _ _ _ _ (by omega), revS_at _ _ _ _ (by omega), if_neg (by omega), if_neg (by omega)]
  apply List.ext_getElem (by rw [List.length_set, List.length_set, revS_len, revS_len])
  intro p h1 h2
  rw [revS_len] at h2
  rw [List.getElem_set, List.getElem_set]
  by_cases c1 : l.length - 1 - i = p
  · rw [if_pos c1]
    simp only [revS, List.getElem_map, List.getElem_range]
    rw [if_pos (by omega)]
    congr 1; omega
  · rw [if_neg c1]
    by_cases c2 : i = p
    · rw [if_pos c2]
      simp only [revS, List.getElem_map, List.getElem_range]
      rw [if_pos (by omega)]
      congr 1; omega
    · rw [if_neg c2]
      simp only [revS, List.getElem_map, List.getElem_range]
      by_cases c3 : p < i ∨ l.length - i ≤ p
      · rw [if_pos c3, if_pos (by omega)]
      · rw [if_neg c3, if_neg (by omega)]
end Go.Proofs.Ytacjlaiddnfpdaa.H
