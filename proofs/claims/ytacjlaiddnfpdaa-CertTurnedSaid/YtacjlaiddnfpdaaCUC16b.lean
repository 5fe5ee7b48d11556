/- Layer 16's Of: it is the chain of the edges by which one goes back, from where the last layer differs, till one is where one was; it begins at its least host. -/
import Derived.Test.YtacjlaiddnfpdaaCUx6
import Derived.Test.YtacjlaiddnfpdaaCUC15n
import Derived.Test.YtacjlaiddnfpdaaH25
set_option linter.unusedVariables false
namespace Go.Proofs.Ytacjlaiddnfpdaa.CU
open Go.RowKit Go.Proofs.Ytacjlaiddnfpdaa.H Go.Proofs.YtacjlaiddnfpdaaW.PrintWords Go.Proofs.YtacjlaiddnfpdaaW.PrintLast Go.Proofs.YtacjlaiddnfpdaaW.PrintMore
/-- A chain among edges. -/
structure isLoop (n : Int) (l c : List S48) : Prop where
  ne : 0 < c.length
  le : c.length ≤ n.toNat
  mem : ∀ e ∈ c, e ∈ l
  rg : ring (fun e : S48 => e.f0) (fun e : S48 => e.f1) c
  neg : sumW (fun e : S48 => e.f2) c < 0
theorem isLoop_turn {n : Int} {l c : List S48} (h : isLoop n l c) (k : Nat) (hk : k ≤ c.length) : isLoop n l (c.drop k ++ c.take k) :=
  ⟨by rw [turn_len c k hk]; exact h.ne, by rw [turn_len c k hk]; exact h.le, fun e he => h.mem e (turn_mem.1 he), ring_turn h.rg k hk, by rw [sumW_turn]; exact h.neg⟩
/-- The edges of a walk back, from the last one on. -/
def chM {α : Type} (e : Nat → α) (m d : Nat) : List α := (List.range d).map fun p => e (m - 1 - p)
theorem chM_len {α : Type} (e : Nat → α) (m d : Nat) : (chM e m d).length = d := by simp [chM]
theorem chM_cons {α : Type} (e : Nat → α) (m : Nat) : e m :: chM e m m = chM e (m + 1) (m + 1) := by
  unfold chM
  rw [List.range_succ_eq_map, List.map_cons, List.map_map]
  refine congr (congrArg _ (by congr 1)) (List.map_congr_left fun p hp => ?_)
  show e (m - 1 - p) = e (m + 1 - 1 - (p + 1))
  congr 1; omega
theorem chM_take {α : Type} (e : Nat → α) (m d : Nat) (h : d ≤ m) : (chM e m m).take d = chM e m d := by
  apply List.ext_getElem
  · rw [List.length_take, chM_len, chM_len]; omega
  · intro i h1 h2
    rw [List.getElem_take]
    simp [chM]
theorem chM_rev {α : Type} (e : Nat → α) (m i : Nat) (h : i ≤ m) : (((List.range m).map e).drop i).reverse = chM e m (m - i) := by
  apply List.ext_getElem
  · rw [List.length_reverse, List.length_drop, List.length_map, List.length_range, chM_len]
  · intro p h1 h2
    rw [chM_len] at h2
    rw [List.getElem_reverse, List.getElem_drop]
    simp only [chM, List.getElem_map, List.getElem_range, List.length_drop, List.length_map, List.length_range]
    congr 1; omega
theorem chM_sum {α : Type} (w : α → Int) (e : Nat → α) (g : Nat → Int) (i : Nat) : ∀ d, (∀ q, q < d → w (e (i + q)) = g q) → sumW w (chM e (i + d) d) = (List.range d).foldl (fun s q => s + g q) 0
  | 0, _ => rfl
  | d + 1, h => by
    have ih := chM_sum w e g i d (fun q hq => h q (by omega))
    have e1 : chM e (i + (d + 1)) (d + 1) = e (i + d) :: chM e (i + d) d := by
      unfold chM
      rw [List.range_succ_eq_map, List.map_cons, List.map_map]
      refine congr (congrArg _ (by congr 1)) (List.map_congr_left fun p hp => ?_)
      show e (i + (d + 1) - 1 - (p + 1)) = e (i + d - 1 - p)
      congr 1; omega
    rw [e1, List.range_succ, List.foldl_append]
    show w (e (i + d)) + sumW w (chM e (i + d) d) = _
    rw [ih, h d (by omega)]
    show _ = (List.range d).foldl (fun s q => s + g q) 0 + g d
    omega
theorem wsum_fold (es : List Ed) (n : Nat) (v : Int) (i : Nat) : ∀ d, wsum es n v i d = (List.range d).foldl (fun s q => s + (es.getD (ix es n v (i + q)) ⟨0, 0, 0⟩).w) 0
  | 0 => rfl
  | d + 1 => by
    rw [List.range_succ, List.foldl_append, ← wsum_fold es n v i d]
    rfl
section
variable {n : Int} {l : List S48} (hm : mayL n l) {v : Int} (hv0 : 0 ≤ v) (hvn : v < n) (hlt : L (eds l) n.toNat v < L (eds l) (n.toNat - 1) v)
/-- The edge by which one goes back. -/
def edS (l : List S48) (n : Nat) (v : Int) (j : Nat) : S48 := l.getD (ix (eds l) n v j) z48
include hm hv0 hvn hlt in
theorem edS_at {j : Nat} (hj : j < n.toNat) : (ix (eds l) n.toNat v j < l.length ∧ edS l n.toNat v j ∈ l) ∧ (edS l n.toNat v j).f1 = bk (eds l) n.toNat v j ∧ (edS l n.toNat v j).f0 = bk (eds l) n.toNat v (j + 1) ∧ B (eds l) (n.toNat - j) (bk (eds l) n.toNat v j) = (ix (eds l) n.toNat v j : Int) ∧ ((eds l).getD (ix (eds l) n.toNat v j) ⟨0, 0, 0⟩).w = (edS l n.toNat v j).f2 := by
  have h0 := hm.1
  obtain ⟨h1, h2, h3, h4, h5⟩ := ix_at hm.2 hv0 (by omega) hlt hj
  have h2' : ix (eds l) n.toNat v j < l.length := by simpa [eds] using h2
  have e : edS l n.toNat v j = l[ix (eds l) n.toNat v j] := by unfold edS; rw [List.getD_eq_getElem?_getD, List.getElem?_eq_getElem h2']; rfl
  have e2 : (eds l)[ix (eds l) n.toNat v j] = ed l[ix (eds l) n.toNat v j] := by simp [eds]
  rw [e2] at h3 h4
  rw [e]
  refine ⟨⟨h2', List.getElem_mem _⟩, h3, h4, h1, ?_⟩
  rw [List.getD_eq_getElem?_getD, List.getElem?_eq_getElem h2]
  show ((eds l)[ix (eds l) n.toNat v j]).w = _
  rw [e2]; rfl
include hm hv0 hvn hlt in
theorem chain_is {i m : Nat} (him : i < m) (hmn : m ≤ n.toNat) (he : bk (eds l) n.toNat v i = bk (eds l) n.toNat v m) (hno : ∀ a b, a < b → b < m → bk (eds l) n.toNat v a ≠ bk (eds l) n.toNat v b) : isLoop n l (chM (edS l n.toNat v) m (m - i)) := by
  have h0 := hm.1
  have hA := fun j (hj : j < n.toNat) => edS_at hm hv0 hvn hlt hj
  refine ⟨by rw [chM_len]; omega, by rw [chM_len]; omega, fun e he => ?_, ?_, ?_⟩
  · obtain ⟨p, hp, rfl⟩ := List.mem_map.1 he
    have := List.mem_range.1 hp
    exact (hA _ (by omega)).1.2
  · exact ring_walk (h := bk (eds l) n.toNat v) (e := edS l n.toNat v) him he hno (fun j hj => (hA j (by omega)).2.2.1) (fun j hj => (hA j (by omega)).2.1)
  · have h1 := chM_sum (fun e : S48 => e.f2) (edS l n.toNat v) (fun q => ((eds l).getD (ix (eds l) n.toNat v (i + q)) ⟨0, 0, 0⟩).w) i (m - i) (fun q hq => ((hA (i + q) (by omega)).2.2.2.2).symm)
    rw [show i + (m - i) = m by omega, ← wsum_fold] at h1
    rw [h1]
    exact wsum_below hm.2 hv0 (by omega) hlt him hmn he
end
/-! the library's searches in a row of numbers -/
theorem indexI_no (l : List Int) (x : Int) (hl : l.length < 1000000000) : ∀ (d i : Nat), i + d = l.length → (∀ q, i ≤ q → q < l.length → l.getD q 0 ≠ x) → Ev (fun k => slices_Index_int_int.l0 k l x (l.length : Int) (i : Int)) (-1) := by
  intro d
  induction d with
  | zero => intro i hi _; exact ev_step (f := fun _ => some (-1)) (fun k => by rw [slices_Index_int_int.l0, if_neg (by omega)]) (Ev.now _)
  | succ d ih =>
    intro i hi h
    refine ev_step (fun k => ?_) (ih (i + 1) (by omega) (fun q h1 h2 => h q (by omega) h2))
    rw [slices_Index_int_int.l0, if_pos (by omega), if_pos (by omega), if_pos (by omega), rdt, if_neg (fun e => h i (Nat.le_refl _) (by omega) e.symm), w64t i (by omega)]
theorem indexI_at (l : List Int) (x : Int) (hl : l.length < 1000000000) (p : Nat) (hp : p < l.length) (hx : l.getD p 0 = x) : ∀ (d i : Nat), i + d = p → (∀ q, i ≤ q → q < p → l.getD q 0 ≠ x) → Ev (fun k => slices_Index_int_int.l0 k l x (l.length : Int) (i : Int)) (p : Int) := by
  intro d
  induction d with
  | zero =>
    intro i hi _
    obtain rfl : i = p := by omega
    exact ev_step (f := fun _ => some (i : Int)) (fun k => by rw [slices_Index_int_int.l0, if_pos (by omega), if_pos (by omega), if_pos (by omega), rdt, if_pos hx.symm]) (Ev.now _)
  | succ d ih =>
    intro i hi h
    refine ev_step (fun k => ?_) (ih (i + 1) (by omega) (fun q h1 h2 => h q (by omega) h2))
    rw [slices_Index_int_int.l0, if_pos (by omega), if_pos (by omega), if_pos (by omega), rdt, if_neg (fun e => h i (Nat.le_refl _) (by omega) e.symm), w64t i (by omega)]
theorem getD_mapR (f : Nat → Int) (m q : Nat) (h : q < m) : ((List.range m).map f).getD q 0 = f q := by
  rw [List.getD_eq_getElem?_getD, List.getElem?_eq_getElem (by simpa using h)]; simp
theorem rdL5 (n : Nat) (F : Nat → Int → Int) (i : Nat) (a : Int) (ha : a = (i : Int)) (hi : i < n + 1) : rd_L7 (rowsF n F (n + 1)) a = rowF n (F i) := by
  subst ha
  show (rowsF _ _ _).getD _ _ = _
  rw [Int.toNat_natCast, rowsF_getD _ _ _ _ hi]
theorem rdL6 (n : Nat) (F : Nat → Int → Int) (i : Nat) (a : Int) (ha : a = (i : Int)) (hi : i < n + 1) : rd_L8 (rowsF n F (n + 1)) a = rowF n (F i) := by
  subst ha
  show (rowsF _ _ _).getD _ _ = _
  rw [Int.toNat_natCast, rowsF_getD _ _ _ _ hi]
section
variable {n : Int} {l : List S48} (hm : mayL n l) (hl : l.length ≤ 1000) {v : Int} (hv0 : 0 ≤ v) (hvn : v < n) (hlt : L (eds l) n.toNat v < L (eds l) (n.toNat - 1) v)
  {i m : Nat} (him : i < m) (hmn : m ≤ n.toNat) (he : bk (eds l) n.toNat v i = bk (eds l) n.toNat v m) (hno : ∀ a b, a < b → b < m → bk (eds l) n.toNat v a ≠ bk (eds l) n.toNat v b)
include hm hv0 hvn hlt him hmn he hno in
theorem back_go : ∀ (d j : Nat), j + d = m → Ev (fun k => loop_back_go k (rowsF n.toNat (B (eds l)) (n.toNat + 1)) l (n.toNat + 1 - j) (bk (eds l) n.toNat v j) ((List.range j).map (bk (eds l) n.toNat v)) ((List.range j).map (edS l n.toNat v))) (bk (eds l) n.toNat v m, (List.range m).map (bk (eds l) n.toNat v), (List.range m).map (edS l n.toNat v)) := by
  have h0 := hm.1
  have h32 := hm.2.n32
  intro d
  induction d with
  | zero =>
    intro j hj
    obtain rfl : j = m := by omega
    obtain ⟨c, hc⟩ : ∃ c, n.toNat + 1 - j = c + 1 := ⟨n.toNat - j, by omega⟩
    rw [hc]
    unfold loop_back_go
    have hin : Ev (fun k => slices_Contains_int_int.f k ((List.range j).map (bk (eds l) n.toNat v)) (bk (eds l) n.toNat v j)) true := by
      unfold slices_Contains_int_int.f slices_Index_int_int.f
      refine Ev.bind (indexI_at _ _ (by simp; omega) i (by simpa using him) (by rw [getD_mapR _ _ _ him]; exact he) i 0 (by omega) (fun q _ hq => by rw [getD_mapR _ _ _ (by omega)]; rw [← he]; exact hno q i hq him)) ?_
      exact Ev.congr (f := fun _ => some true) (fun k => by rw [decide_eq_true (by omega)]) (Ev.now _)
    refine Ev.bind hin ?_
    exact Ev.congr (fun k => by rw [if_pos rfl]) (Ev.now _)
  | succ d ih =>
    intro j hj
    obtain ⟨c, hc⟩ : ∃ c, n.toNat + 1 - j = c + 1 := ⟨n.toNat - j, by omega⟩
    have hcn : c = n.toNat - j := by omega
    have hjn : j < n.toNat := by omega
    obtain ⟨⟨x1, x2⟩, x3, x4, x5, x6⟩ := edS_at hm hv0 hvn hlt hjn
    have hr := bk_range hm.2 hv0 (by omega) hlt j (by omega)
    have ih' := ih (j + 1) (by omega)
    rw [show n.toNat + 1 - (j + 1) = c by omega] at ih'
    rw [hc]
    unfold loop_back_go
    have hout : Ev (fun k => slices_Contains_int_int.f k ((List.range j).map (bk (eds l) n.toNat v)) (bk (eds l) n.toNat v j)) false := by
      unfold slices_Contains_int_int.f slices_Index_int_int.f
      refine Ev.bind (indexI_no _ _ (by simp; omega) j 0 (by simp) (fun q _ hq => by rw [List.length_map, List.length_range] at hq; rw [getD_mapR _ _ _ hq]; exact hno q j hq (by omega))) ?_
      exact Ev.congr (f := fun _ => some false) (fun k => by rw [decide_eq_false (by omega)]) (Ev.now _)
    refine Ev.bind hout ?_
    have hi' : loop_back_i (rowsF n.toNat (B (eds l)) (n.toNat + 1)) c (bk (eds l) n.toNat v j) = (ix (eds l) n.toNat v j : Int) := by
      unfold loop_back_i
      rw [rdL6 _ _ c _ rfl (by omega), rowF_rd _ _ _ hr.1 hr.2, hcn, x5]
    have hrl : (rd_L8 (rowsF n.toNat (B (eds l)) (n.toNat + 1)) (c : Int)).length = n.toNat := by rw [rdL6 _ _ c _ rfl (by omega), rowF_length]
    refine Ev.congr (fun k => ?_) ih'
    rw [if_neg Bool.false_ne_true, hi', hrl, if_pos ⟨⟨hr.1, by omega⟩, by omega, by omega⟩]
    have ee : rd_T48 l (ix (eds l) n.toNat v j : Int) = edS l n.toNat v j := by show l.getD _ _ = _; rw [Int.toNat_natCast]; rfl
    rw [ee, x4, List.range_succ, List.map_append, List.map_append]
    rfl
include hm hl hv0 hvn hlt him hmn he hno in
theorem back_ev : Ev (fun k => loop_back.f k v (rowsF n.toNat (B (eds l)) (n.toNat + 1)) l) (chM (edS l n.toNat v) m (m - i)) := by
  have h0 := hm.1
  have h32 := hm.2.n32
  unfold loop_back.f
  refine Ev.congr (fun k => by rw [rowsF_length, if_pos (by omega)]) ?_
  refine Ev.bind (back_go hm hv0 hvn hlt him hmn he hno m 0 (by omega)) ?_
  have hix : Ev (fun k => slices_Index_int_int.f k ((List.range m).map (bk (eds l) n.toNat v)) (bk (eds l) n.toNat v m)) (i : Int) := by
    unfold slices_Index_int_int.f
    exact indexI_at _ _ (by simp; omega) i (by simpa using him) (by rw [getD_mapR _ _ _ him]; exact he) i 0 (by omega) (fun q _ hq => by rw [getD_mapR _ _ _ (by omega)]; rw [← he]; exact hno q i hq him)
  refine Ev.bind hix ?_
  refine Ev.congr (f := fun _ => some (chM (edS l n.toNat v) m (m - i))) (fun k => ?_) (Ev.now _)
  rw [if_pos (by rw [List.length_map, List.length_range]; omega), Int.toNat_natCast]
  unfold api_Edge_61.f
  rw [if_pos (by rw [List.length_drop, List.length_map, List.length_range]; omega), Option.bind_some]
  unfold api_Edge_62.f
  rw [if_pos (by rw [List.length_drop, List.length_map, List.length_range]; omega), chM_rev _ _ _ (by omega)]
theorem turned_eq (c : List S48) (h : c.length ≤ 100000) : loop_turned.f c = some (c.drop (loop_turned_ls c) ++ c.take (loop_turned_ls c)) := by
  unfold loop_turned.f; rw [if_pos h]
include hm hl hv0 hvn hlt him hmn he hno in
theorem of_l0 (hfirst : ∀ h : Nat, (h : Int) < v → ¬ L (eds l) n.toNat (h : Int) < L (eds l) (n.toNat - 1) (h : Int)) : ∀ (d j : Nat), (j : Int) + d = v → Ev (fun k => loop_Of.l0 k n l (rowsF n.toNat (L (eds l)) (n.toNat + 1)) (rowsF n.toNat (B (eds l)) (n.toNat + 1)) n (j : Int)) ((chM (edS l n.toNat v) m (m - i)).drop (loop_turned_ls (chM (edS l n.toNat v) m (m - i))) ++ (chM (edS l n.toNat v) m (m - i)).take (loop_turned_ls (chM (edS l n.toNat v) m (m - i)))) := by
  have h0 := hm.1
  have h32 := hm.2.n32
  have hw : wrap64 (n - 1) = n - 1 := by unfold wrap64; omega
  have l1 := rdL5 n.toNat (L (eds l)) n.toNat n (by omega) (by omega)
  have l2 := rdL5 n.toNat (L (eds l)) (n.toNat - 1) (n - 1) (by omega) (by omega)
  intro d
  induction d with
  | zero =>
    intro j hj
    obtain rfl : v = (j : Int) := by omega
    refine ev_step (f := fun k => (loop_back.f k (j : Int) (rowsF n.toNat (B (eds l)) (n.toNat + 1)) l).bind fun t => (loop_turned.f t).bind fun t2 => some t2) (fun k => ?_) ?_
    · rw [loop_Of.l0, if_pos hvn, if_pos h0, if_pos (by rw [rowsF_length]; omega), if_pos (by omega), l1, if_pos (by rw [rowF_length]; omega), hw, if_pos (by omega), if_pos (by rw [rowsF_length]; omega), l2, if_pos (by rw [rowF_length]; omega), rowF_rd _ _ _ (by omega) (by omega), rowF_rd _ _ _ (by omega) (by omega), if_pos hlt]
    · refine Ev.bind (back_ev hm hl hv0 hvn hlt him hmn he hno) ?_
      exact Ev.congr (fun k => by rw [turned_eq _ (by rw [chM_len]; omega), Option.bind_some]) (Ev.now _)
  | succ d ih =>
    intro j hj
    have := hfirst j (by omega)
    refine ev_step (fun k => ?_) (ih (j + 1) (by omega))
    rw [loop_Of.l0, if_pos (by omega), if_pos h0, if_pos (by rw [rowsF_length]; omega), if_pos (by omega), l1, if_pos (by rw [rowF_length]; omega), hw, if_pos (by omega), if_pos (by rw [rowsF_length]; omega), l2, if_pos (by rw [rowF_length]; omega), rowF_rd _ _ _ (by omega) (by omega), rowF_rd _ _ _ (by omega) (by omega), if_neg this, w64t j (by omega)]
end
theorem of_l0_no {n : Int} {l : List S48} (hm : mayL n l) (hc : ∀ h, 0 ≤ h → h < n → L (eds l) n.toNat h = L (eds l) (n.toNat - 1) h) : ∀ (d j : Nat), (j : Int) + d = n → Ev (fun k => loop_Of.l0 k n l (rowsF n.toNat (L (eds l)) (n.toNat + 1)) (rowsF n.toNat (B (eds l)) (n.toNat + 1)) n (j : Int)) [] := by
  have h0 := hm.1
  have h32 := hm.2.n32
  have hw : wrap64 (n - 1) = n - 1 := by unfold wrap64; omega
  intro d
  induction d with
  | zero =>
    intro j hj
    exact ev_step (f := fun _ => some []) (fun k => by rw [loop_Of.l0, if_neg (by omega)]) (Ev.now _)
  | succ d ih =>
    intro j hj
    have l1 := rdL5 n.toNat (L (eds l)) n.toNat n (by omega) (by omega)
    have l2 := rdL5 n.toNat (L (eds l)) (n.toNat - 1) (n - 1) (by omega) (by omega)
    have := hc (j : Int) (by omega) (by omega)
    refine ev_step (fun k => ?_) (ih (j + 1) (by omega))
    rw [loop_Of.l0, if_pos (by omega), if_pos h0, if_pos (by rw [rowsF_length]; omega), if_pos (by omega), l1, if_pos (by rw [rowF_length]; omega), hw, if_pos (by omega), if_pos (by rw [rowsF_length]; omega), l2, if_pos (by rw [rowF_length]; omega), rowF_rd _ _ _ (by omega) (by omega), rowF_rd _ _ _ (by omega) (by omega), if_neg (by omega), w64t j (by omega)]
theorem ls_least (c : List S48) (hne : 0 < c.length) : ∃ h : 0 < (c.drop (loop_turned_ls c) ++ c.take (loop_turned_ls c)).length, ∀ e ∈ c, (c.drop (loop_turned_ls c) ++ c.take (loop_turned_ls c))[0].f0 ≤ e.f0 := by
  have hx : ∀ (j : Nat) (hj : j < c.length), loop_turned_x c j = c[j].f0 := fun j hj => by
    unfold loop_turned_x
    rw [show rd_T48 c (j : Int) = c[j] by show c.getD _ _ = _; rw [Int.toNat_natCast, List.getD_eq_getElem?_getD, List.getElem?_eq_getElem hj]; rfl]
  have hlt : loop_turned_ls c < c.length := lsI_lt _ _ hne
  have hl := turn_len c (loop_turned_ls c) (by omega)
  refine ⟨by omega, fun e he => ?_⟩
  rw [turn_get c _ (by omega) 0 hne]
  simp only [Nat.zero_add, if_pos hlt]
  obtain ⟨j, hj, rfl⟩ := List.getElem_of_mem he
  rw [← hx _ hlt, ← hx j hj]
  exact lsI_le _ _ j hj
/-- What it is. -/
theorem loop_one (n : Int) (l : List S48) (hl : l.length ≤ 1000) : ∃ c, Ev (fun k => loop_Of.f k n l) c ∧ ((c = [] ∧ (¬ mayL n l ∨ (mayL n l ∧ ∀ h, 0 ≤ h → h < n → L (eds l) n.toNat h = L (eds l) (n.toNat - 1) h))) ∨ (mayL n l ∧ (¬ ∀ h, 0 ≤ h → h < n → L (eds l) n.toNat h = L (eds l) (n.toNat - 1) h) ∧ isLoop n l c ∧ ∀ (h : 0 < c.length), ∀ e ∈ c, c[0].f0 ≤ e.f0)) := by
  by_cases hm : mayL n l
  · have h0 := hm.1
    have h32 := hm.2.n32
    by_cases hc : ∀ h, 0 ≤ h → h < n → L (eds l) n.toNat h = L (eds l) (n.toNat - 1) h
    · refine ⟨[], ?_, .inl ⟨rfl, .inr ⟨hm, hc⟩⟩⟩
      · unfold loop_Of.f
        refine Ev.bind (layers_ev n l (by omega)) ?_
        rw [if_pos hm]
        by_cases hn : n = 0
        · subst hn
          exact Ev.congr (f := fun _ => some []) (fun k => by rw [if_pos (by rw [rowsF_length]; decide)]) (Ev.now _)
        · refine Ev.congr (fun k => by rw [if_neg (by rw [rowsF_length]; omega)]) ?_
          exact of_l0_no hm hc n.toNat 0 (by omega)
    · have hex : ∃ h : Nat, (h : Int) < n ∧ L (eds l) n.toNat (h : Int) < L (eds l) (n.toNat - 1) (h : Int) := by
        apply Classical.byContradiction
        intro hno
        refine hc fun h h1 h2 => ?_
        have hle := L_mono_le (eds l) h (show n.toNat - 1 ≤ n.toNat by omega)
        rcases Int.lt_or_le (L (eds l) n.toNat h) (L (eds l) (n.toNat - 1) h) with h3 | h3
        · exact absurd ⟨h.toNat, by omega, by rwa [Int.toNat_of_nonneg h1]⟩ hno
        · omega
      obtain ⟨h, hh⟩ := hex
      obtain ⟨u, ⟨hun, hult⟩, _, hfirst⟩ := least_nat (p := fun h : Nat => (h : Int) < n ∧ L (eds l) n.toNat (h : Int) < L (eds l) (n.toNat - 1) (h : Int)) hh
      have hu0 : (0 : Int) ≤ (u : Int) := by omega
      have hf : ∀ q : Nat, (q : Int) < (u : Int) → ¬ L (eds l) n.toNat (q : Int) < L (eds l) (n.toNat - 1) (q : Int) := fun q hq h3 => hfirst q (by omega) ⟨by omega, h3⟩
      obtain ⟨i, m, him, hmn, he, hno⟩ := bk_first hm.2 hu0 (by omega) hult
      have hloop := chain_is hm hu0 hun hult him hmn he hno
      have hlen : (chM (edS l n.toNat (u : Int)) m (m - i)).length = m - i := chM_len _ _ _
      obtain ⟨hp, hleast⟩ := ls_least (chM (edS l n.toNat (u : Int)) m (m - i)) hloop.ne
      have hlsl : loop_turned_ls (chM (edS l n.toNat (u : Int)) m (m - i)) ≤ (chM (edS l n.toNat (u : Int)) m (m - i)).length := lsI_le_n _ _
      refine ⟨_, ?_, .inr ⟨hm, hc, isLoop_turn hloop _ hlsl, fun h e he' => hleast e (turn_mem.1 he')⟩⟩
      · unfold loop_Of.f
        refine Ev.bind (layers_ev n l (by omega)) ?_
        rw [if_pos hm]
        refine Ev.congr (fun k => by rw [if_neg (by rw [rowsF_length]; omega)]) ?_
        exact of_l0 hm hl hu0 hun hult him hmn he hno hf u 0 (by omega)
  · refine ⟨[], ?_, .inl ⟨rfl, .inl hm⟩⟩
    · unfold loop_Of.f
      refine Ev.bind (layers_ev n l (by omega)) ?_
      rw [if_neg hm]
      exact Ev.congr (f := fun _ => some []) (fun k => by rw [if_pos (by decide)]) (Ev.now _)
end Go.Proofs.Ytacjlaiddnfpdaa.CU
