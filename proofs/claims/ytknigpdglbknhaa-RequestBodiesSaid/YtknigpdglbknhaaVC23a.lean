/- Layer 23: requests and their bytes, as plain Lean. -/
import Derived.Test.YtknigpdglbknhaaVC4
import Derived.Test.YtknigpdglbknhaaVx1
import Derived.Test.YtknigpdglbknhaaVx2
set_option linter.unusedVariables false
namespace Go.Proofs.Ytknigpdglbknhaa.V
open Go.RowKit Go.Proofs.Ytknigpdglbknhaa.H Go.Proofs.YtknigpdglbknhaaW.PrintWords Go.Proofs.YtknigpdglbknhaaW.PrintLast Go.Proofs.YtknigpdglbknhaaW.PrintMore
theorem law23_fixed_ev : Ev (fun k => merkhetlaw23_fixed.f k) true := Ev.of (fun k => merkhetlaw23_fixed.mono k) (k := 12) (by decide +kernel)
theorem ev_eqq {α : Type} {g : Nat → Option α} {r r' : α} (h : Ev g r) (e : r = r') : Ev g r' := e ▸ h
/-- May a request be? -/
def mayR (kd : Int) (n : Nat) (t : Int) : Bool := (decide (kd = 1) && (decide (n ≤ 4096) && decide (t = 0))) || (((decide (kd = 2) || (decide (kd = 3) || decide (kd = 5))) && (decide (t = 0) && decide (n = 0))) || (decide (kd = 4) && decide (n = 0)))
theorem mayR_iff {kd : Int} {n : Nat} {t : Int} : mayR kd n t = true ↔ (kd = 1 ∧ n ≤ 4096 ∧ t = 0) ∨ ((kd = 2 ∨ kd = 3 ∨ kd = 5) ∧ t = 0 ∧ n = 0) ∨ (kd = 4 ∧ n = 0) := by
  unfold mayR; simp only [Bool.or_eq_true, Bool.and_eq_true, decide_eq_true_eq]
theorem len0 (l : List Int) : ((l.length : Int) == 0) = decide (l.length = 0) := by rw [Bool.eq_iff_iff, beq_iff_eq, decide_eq_true_eq]; omega
theorem reqMay_ev (kd t : Int) (l : List Int) : Ev (fun k => request_May.f k kd l t) (mayR kd l.length t) := by
  have j : ∀ b : Bool, Ev (fun k => request_May.j0 k kd b kd l t) (if b = true then decide (t = 0) && decide (l.length = 0) else decide (kd = 4) && decide (l.length = 0)) := by
    intro b
    cases b with
    | true =>
      by_cases c : t = 0
      · exact ev_eqq (Ev.step (f := fun _ => some ((l.length : Int) == 0)) (fun k => by rw [request_May.j0, if_pos rfl, if_pos c]) (Ev.now _)) (by rw [len0, if_pos rfl, decide_eq_true c]; rfl)
      · exact ev_eqq (Ev.step (f := fun _ => some false) (fun k => by rw [request_May.j0, if_pos rfl, if_neg c]) (Ev.now _)) (by rw [if_pos rfl, decide_eq_false c]; rfl)
    | false =>
      by_cases c : kd = 4
      · exact ev_eqq (Ev.step (f := fun _ => some ((l.length : Int) == 0)) (fun k => by rw [request_May.j0, if_neg Bool.false_ne_true, if_pos c]) (Ev.now _)) (by rw [len0, if_neg Bool.false_ne_true, decide_eq_true c]; rfl)
      · exact ev_eqq (Ev.step (f := fun _ => some false) (fun k => by rw [request_May.j0, if_neg Bool.false_ne_true, if_neg c]) (Ev.now _)) (by rw [if_neg Bool.false_ne_true, decide_eq_false c]; rfl)
  unfold request_May.f
  by_cases c1 : kd = 1
  · refine Ev.congr (f := fun _ => some (decide (l.length ≤ 4096) && decide (t = 0))) (fun k => ?_) (ev_eqq (Ev.now _) (by subst c1; simp [mayR]))
    rw [if_pos c1]
    by_cases c : (l.length : Int) ≤ 4096
    · rw [if_pos c, decide_eq_true (show l.length ≤ 4096 by omega), Bool.true_and]; congr 1
    · rw [if_neg c, decide_eq_false (show ¬ l.length ≤ 4096 by omega), Bool.false_and]
  by_cases c2 : kd = 2
  · exact Ev.congr (fun k => by rw [if_neg c1, if_pos c2]) (ev_eqq (j _) (by subst c2; simp [mayR]))
  by_cases c3 : kd = 3
  · exact Ev.congr (fun k => by rw [if_neg c1, if_neg c2, if_pos c3]) (ev_eqq (j _) (by subst c3; simp [mayR]))
  · refine Ev.congr (fun k => by rw [if_neg c1, if_neg c2, if_neg c3]) (ev_eqq (j _) ?_)
    by_cases c5 : kd = 5
    · subst c5; simp [mayR]
    · simp [mayR, c1, c2, c3, c5]
def putR (kd : Int) (b : List Nat) (t : Int) : List Nat × Int := if mayR kd b.length t = true then (kd.toNat :: b ++ (if kd = 4 then nb 8 t.toNat else []), 0) else ([], 1)
theorem mayR_kd {kd : Int} {n : Nat} {t : Int} (h : mayR kd n t = true) : 1 ≤ kd ∧ kd ≤ 5 ∧ n ≤ 4096 := by
  rw [mayR_iff] at h; omega
theorem putR_isB {kd : Int} {b : List Nat} {t : Int} (hb : isB b) : isB (putR kd b t).1 := by
  unfold putR
  split
  · rename_i h
    have := mayR_kd h
    refine isB_append (isB_cons (by omega) hb) ?_
    split
    · exact nb_isB _ _
    · exact isB_nil
  · exact isB_nil
theorem reqPut_ev (kd t : Int) (b : List Nat) (ht : 0 ≤ t) : Ev (fun k => request_Put.f k kd (rowB b) t) (rowB (putR kd b t).1, (putR kd b t).2) := by
  unfold request_Put.f putR
  refine Ev.bind (reqMay_ev kd t (rowB b)) ?_
  rw [rowB_length]
  cases hm : mayR kd b.length t with
  | false => exact Ev.congr (f := fun _ => some (([] : List Int), (1 : Int))) (fun k => by rw [if_neg Bool.false_ne_true]) (Ev.now _)
  | true =>
    have h := mayR_kd hm
    have e1 : kd % 256 = ((kd.toNat : Nat) : Int) := by omega
    obtain ⟨n, rfl⟩ := Int.eq_ofNat_of_zero_le ht
    simp only [if_true]
    by_cases c4 : kd = 4
    · refine Ev.congr (f := fun _ => some (rowB (kd.toNat :: b ++ nb 8 n), (0 : Int))) (fun k => ?_) (ev_eqq (Ev.now _) (by rw [if_pos c4]; rfl))
      rw [Option.bind_some, e1, if_pos (show [((kd.toNat : Nat) : Int)].length + b.length < 140737488355328 by show 1 + b.length < _; omega), Option.bind_some, if_pos c4, show [((kd.toNat : Nat) : Int)] ++ rowB b = rowB (kd.toNat :: b) from rfl, pack_Put_nat _ _ _ (by rw [List.length_cons]; omega), Option.bind_some]
      rfl
    · refine Ev.congr (f := fun _ => some (rowB (kd.toNat :: b), (0 : Int))) (fun k => ?_) (ev_eqq (Ev.now _) (by rw [if_neg c4, List.append_nil]))
      rw [Option.bind_some, e1, if_pos (show [((kd.toNat : Nat) : Int)].length + b.length < 140737488355328 by show 1 + b.length < _; omega), Option.bind_some, if_neg c4]
      rfl
/-- The request of bytes; why there is none. -/
def getRq : List Nat → Int × List Nat × Int × Int
  | [] => (0, [], 0, 2)
  | c :: r => if c = 1 then (if 4096 < r.length then (0, [], 0, 10) else (1, r, 0, 0))
    else if c = 4 then (if r.length < 8 then (0, [], 0, 2) else if 8 < r.length then (0, [], 0, 3) else (4, [], (num r : Int), 0))
    else if c = 2 ∨ c = 3 ∨ c = 5 then (if 0 < r.length then (0, [], 0, 3) else ((c : Int), [], 0, 0))
    else (0, [], 0, 4)
theorem getRq_cons (c : Nat) (r : List Nat) : getRq (c :: r) = if c = 1 then (if 4096 < r.length then (0, [], 0, 10) else (1, r, 0, 0))
    else if c = 4 then (if r.length < 8 then (0, [], 0, 2) else if 8 < r.length then (0, [], 0, 3) else (4, [], (num r : Int), 0))
    else if c = 2 ∨ c = 3 ∨ c = 5 then (if 0 < r.length then (0, [], 0, 3) else ((c : Int), [], 0, 0))
    else (0, [], 0, 4) := rfl
theorem reqGet_ev (m : List Nat) (hb : isB m) (hl : m.length < 70368744177664) : Ev (fun k => request_Get.f k (rowB m)) ((getRq m).1, rowB (getRq m).2.1, (getRq m).2.2) := by
  unfold request_Get.f
  cases m with
  | nil => exact Ev.congr (f := fun _ => some ((0 : Int), ([] : List Int), (0 : Int), (2 : Int))) (fun k => by rw [if_pos (show (rowB []).length = 0 from rfl)]) (Ev.now _)
  | cons c r =>
    have hc := hb c List.mem_cons_self
    have hbr : isB r := fun x hx => hb x (List.mem_cons_of_mem _ hx)
    have hlr : (c :: r).length = r.length + 1 := rfl
    have e0 : rd (rowB (c :: r)) 0 = (c : Int) := rfl
    have e1 : wrap64 (c : Int) = (c : Int) := by unfold wrap64; omega
    have e2 : (rowB (c :: r)).drop 1 = rowB r := rfl
    refine Ev.congr (fun k => by rw [rowB_length, if_neg (show ¬ (c :: r).length = 0 by rw [hlr]; omega), e0, e1, e2, hlr]) ?_
    rw [getRq_cons]
    by_cases c1 : c = 1
    · rw [if_pos c1]
      by_cases g : 4096 < r.length
      · rw [if_pos g]
        exact Ev.congr (f := fun _ => some ((0 : Int), ([] : List Int), (0 : Int), (10 : Int))) (fun k => by rw [if_pos (by omega), if_pos (by omega)]) (Ev.now _)
      · rw [if_neg g]
        exact Ev.congr (f := fun _ => some ((1 : Int), rowB r, (0 : Int), (0 : Int))) (fun k => by rw [if_pos (by omega), if_neg (by omega), clone_nat r (by omega), Option.bind_some]) (Ev.now _)
    rw [if_neg c1]
    by_cases c4 : c = 4
    · rw [if_pos c4]
      refine Ev.congr (fun k => by rw [if_neg (by omega), if_pos (by omega)]) ?_
      refine Ev.bind (g := fun k => pack_Get.f k (rowB r) 0 8) (a := getR r 0 8) ⟨9, fun k hk => pack_Get_nat k hk r 0 8 hbr (by omega)⟩ ?_
      by_cases g : r.length < 8
      · have e : getR r 0 8 = (0, false) := by unfold getR getN; rw [if_neg (by omega)]
        rw [if_pos g, e]
        exact Ev.congr (f := fun _ => some ((0 : Int), ([] : List Int), (0 : Int), (2 : Int))) (fun k => by rw [if_neg (by decide)]) (Ev.now _)
      · have e : getR r 0 8 = (((num (r.take 8) : Nat) : Int), true) := by unfold getR getN; rw [if_pos (by omega)]; rfl
        rw [if_neg g, e]
        by_cases g2 : 8 < r.length
        · rw [if_pos g2]
          exact Ev.congr (f := fun _ => some ((0 : Int), ([] : List Int), (0 : Int), (3 : Int))) (fun k => by rw [if_pos rfl, if_neg (by omega), if_pos (by omega)]) (Ev.now _)
        · rw [if_neg g2]
          refine Ev.congr (f := fun _ => some ((4 : Int), ([] : List Int), (num r : Int), (0 : Int))) (fun k => ?_) (Ev.now _)
          rw [if_pos rfl, if_neg (by omega), if_neg (by omega), List.take_of_length_le (by omega)]
    rw [if_neg c4]
    by_cases cq : c = 2 ∨ c = 3 ∨ c = 5
    · rw [if_pos cq]
      by_cases g : 0 < r.length
      · rw [if_pos g]
        exact Ev.congr (f := fun _ => some ((0 : Int), ([] : List Int), (0 : Int), (3 : Int))) (fun k => by rw [if_neg (by omega), if_neg (by omega), if_pos (by omega), if_pos (by omega)]) (Ev.now _)
      · rw [if_neg g]
        exact Ev.congr (f := fun _ => some ((c : Int), ([] : List Int), (0 : Int), (0 : Int))) (fun k => by rw [if_neg (by omega), if_neg (by omega), if_pos (by omega), if_neg (by omega)]) (Ev.now _)
    · rw [if_neg cq]
      exact Ev.congr (f := fun _ => some ((0 : Int), ([] : List Int), (0 : Int), (4 : Int))) (fun k => by rw [if_neg (by omega), if_neg (by omega), if_neg (by omega)]) (Ev.now _)
/-- What is laid is read as it was. -/
theorem getRq_put {kd : Int} {b : List Nat} {t : Int} (h : mayR kd b.length t = true) (ht : 0 ≤ t) (ht2 : t ≤ 18446744073709551615) : getRq (putR kd b t).1 = (kd, b, t, 0) := by
  have hk := mayR_iff.1 h
  have hb0 : b.length = 0 → b = [] := fun e => List.length_eq_zero_iff.1 e
  unfold putR
  rw [if_pos h]
  show getRq (kd.toNat :: (b ++ (if kd = 4 then nb 8 t.toNat else []))) = _
  rw [getRq_cons]
  rcases hk with ⟨rfl, h1, rfl⟩ | ⟨h1, rfl, h2⟩ | ⟨rfl, h2⟩
  · rw [if_pos (by decide), show (if (1 : Int) = 4 then nb 8 (Int.toNat 0) else []) = [] from if_neg (by decide), List.append_nil, if_neg (by omega)]
  · obtain rfl := hb0 h2
    rw [if_neg (by omega), if_neg (by omega), if_pos (by omega), if_neg (show ¬ kd = 4 by omega), if_neg (by simp)]
    rw [Int.toNat_of_nonneg (by omega)]
  · obtain rfl := hb0 h2
    rw [if_neg (by decide), if_pos (by decide), if_pos rfl, List.nil_append, nb_length, if_neg (by decide), if_neg (by decide), num_nb, show (256 : Nat) ^ 8 = 18446744073709551616 from rfl]
    have : ((t.toNat % 18446744073709551616 : Nat) : Int) = t := by omega
    rw [this]
/-- What is read has just those bytes. -/
theorem putR_get {m : List Nat} (hb : isB m) (h : (getRq m).2.2.2 = 0) : putR (getRq m).1 (getRq m).2.1 (getRq m).2.2.1 = (m, 0) := by
  cases m with
  | nil => exact absurd h (by decide)
  | cons c r =>
    have hbr : isB r := fun x hx => hb x (List.mem_cons_of_mem _ hx)
    rw [getRq_cons] at h ⊢
    by_cases c1 : c = 1
    · subst c1
      rw [if_pos rfl] at h ⊢
      by_cases g : 4096 < r.length
      · rw [if_pos g] at h; exact absurd h (by decide)
      · rw [if_neg g]
        show putR 1 r 0 = _
        unfold putR
        rw [if_pos (mayR_iff.2 (.inl ⟨rfl, by omega, rfl⟩)), if_neg (by decide), List.append_nil]
        rfl
    rw [if_neg c1] at h ⊢
    by_cases c4 : c = 4
    · subst c4
      rw [if_pos rfl] at h ⊢
      by_cases g : r.length < 8
      · rw [if_pos g] at h; exact absurd h (by decide)
      rw [if_neg g] at h ⊢
      by_cases g2 : 8 < r.length
      · rw [if_pos g2] at h; exact absurd h (by decide)
      rw [if_neg g2] at h ⊢
      show putR 4 [] (num r : Int) = _
      unfold putR
      rw [if_pos (show mayR 4 ([] : List Nat).length (num r : Int) = true from mayR_iff.2 (.inr (.inr ⟨rfl, rfl⟩))), if_pos rfl, Int.toNat_natCast]
      have h3 := nb_num r hbr
      rw [show r.length = 8 by omega] at h3
      rw [h3]
      rfl
    rw [if_neg c4] at h ⊢
    by_cases cq : c = 2 ∨ c = 3 ∨ c = 5
    · rw [if_pos cq] at h ⊢
      by_cases g : 0 < r.length
      · rw [if_pos g] at h; exact absurd h (by decide)
      rw [if_neg g]
      have hr : r = [] := List.length_eq_zero_iff.1 (by omega)
      subst hr
      show putR (c : Int) [] 0 = _
      unfold putR
      rw [if_pos (show mayR (c : Int) ([] : List Nat).length 0 = true from mayR_iff.2 (.inr (.inl ⟨by omega, rfl, rfl⟩))), if_neg (by omega), Int.toNat_natCast]
      rfl
    · rw [if_neg cq] at h; exact absurd h (by decide)
end Go.Proofs.Ytknigpdglbknhaa.V
