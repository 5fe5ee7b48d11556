-- WRITTEN FOR THIS CLAIM by wip/tools/mp.py, a program of this project that drives the kit's print; the functions that the print does not take are this project's own texts.
import Derived.Test.YtdpodjgggicaoaaFGx0s
import Derived.Test.YtdpodjgggicaoaaFGx2s
import Derived.Test.YtdpodjgggicaoaaFGx3s
namespace Go.Proofs.Ytdpodjgggicaoaa.FG
open Go.RowKit Go.Proofs.YtdpodjgggicaoaaW.PrintWords Go.Proofs.YtdpodjgggicaoaaW.PrintLast Go.Proofs.YtdpodjgggicaoaaW.PrintMore
attribute [local go_sem] max2_int min2_int max_two min_two max_three min_three max_four min_four   -- for this text's walks alone
set_option linter.unusedVariables false
set_option linter.unusedSimpArgs false
def frame_All_go (k : Nat) (l0 : List Int) : Nat → Int → Option (List (List Int × Int) × Bool)
  | 0, _ => some ([], false)
  | c + 1, at_ => (frame_Get.f k l0 at_).bind fun g => if g.2.2 = 0 then (frame_All_go k l0 c g.2.1).bind fun r => some ((g.1, g.2.1) :: r.1, r.2) else some ([], true)
def frame_All_last : Int → List (List Int × Int) → Int
  | a, [] => a
  | _, x :: r => frame_All_last x.2 r
def frame_All.f (k : Nat) (l0 : List Int) (a1 a2 : Int) : Option (List (List Int) × Int) :=
  if a2 < 1 then some ([], a1) else (frame_All_go k l0 a2.toNat a1).bind fun r => if r.1.length ≤ 1000000 then some (r.1.map (·.1), frame_All_last a1 r.1) else none
theorem frame_All_go_mono (k : Nat) (l0 : List Int) : ∀ c at_, LeO (frame_All_go k l0 c at_) (frame_All_go (k + 1) l0 c at_) := by
  intro c
  induction c with
  | zero => intro at_; exact LeO.refl _
  | succ c ih => intro at_; exact LeO.bind (frame_Get.mono _ _ _) (fun _ => LeO.ite (LeO.bind (ih _) (fun _ => LeO.refl _)) (LeO.refl _))
theorem frame_All.mono : ∀ a0 a1 a2 k, LeO (frame_All.f k a0 a1 a2) (frame_All.f (k + 1) a0 a1 a2) := by
  intro a0 a1 a2 k
  exact LeO.ite (LeO.refl _) (LeO.bind (frame_All_go_mono k _ _ _) (fun _ => LeO.refl _))
def frame_All_ch (k : Nat) (l0 : List Int) : Int → List (List Int × Int) → Bool → Prop
  | at_, [], fl => fl = true → ∃ g, frame_Get.f k l0 at_ = some g ∧ g.2.2 ≠ 0
  | at_, x :: r, fl => frame_Get.f k l0 at_ = some (x.1, x.2, 0) ∧ frame_All_ch k l0 x.2 r fl
theorem frame_All_go_ch (k : Nat) (l0 : List Int) : ∀ (c : Nat) (at_ : Int) (xs : List (List Int × Int)) (fl : Bool), frame_All_go k l0 c at_ = some (xs, fl) → frame_All_ch k l0 at_ xs fl ∧ (fl = true → xs.length < c) ∧ (fl = false → xs.length = c) := by
  intro c
  induction c with
  | zero =>
    intro at_ xs fl h
    rw [frame_All_go] at h
    injection h with h
    injection h with h1 h2
    subst h1 h2
    exact ⟨fun h => absurd h (by decide), fun h => absurd h (by decide), fun _ => rfl⟩
  | succ c ih =>
    intro at_ xs fl h
    rw [frame_All_go] at h
    obtain ⟨⟨b, nx, e⟩, hg, h2⟩ := Option.bind_eq_some_iff.mp h
    have h2 : (if e = 0 then (frame_All_go k l0 c nx).bind fun r => some ((b, nx) :: r.1, r.2) else some ([], true)) = some (xs, fl) := h2
    by_cases he : e = 0
    · rw [if_pos he] at h2
      obtain ⟨⟨ys, fl2⟩, hy, h3⟩ := Option.bind_eq_some_iff.mp h2
      injection h3 with h3
      injection h3 with h4 h5
      subst h4 h5 he
      obtain ⟨i1, i2, i3⟩ := ih _ _ _ hy
      exact ⟨⟨hg, i1⟩, fun h => by have := i2 h; simp only [List.length_cons]; omega, fun h => by have := i3 h; simp only [List.length_cons]; omega⟩
    · rw [if_neg he] at h2
      injection h2 with h3
      injection h3 with h4 h5
      subst h4 h5
      exact ⟨fun _ => ⟨_, hg, he⟩, fun _ => Nat.succ_pos c, fun h => absurd h (by decide)⟩
theorem frame_All_last_snoc : ∀ (a : Int) (xs : List (List Int × Int)) (x : List Int × Int), frame_All_last a (xs ++ [x]) = x.2 := by
  intro a xs
  induction xs generalizing a with
  | nil => intro x; rfl
  | cons y r ih => intro x; exact ih _ x
theorem frame_All_ch_drop (k : Nat) (l0 : List Int) (fl : Bool) : ∀ (j : Nat) (at_ : Int) (xs : List (List Int × Int)), frame_All_ch k l0 at_ xs fl → frame_All_ch k l0 (frame_All_last at_ (xs.take j)) (xs.drop j) fl := by
  intro j
  induction j with
  | zero => intro at_ xs h; exact h
  | succ j ih =>
    intro at_ xs h
    cases xs with
    | nil => exact h
    | cons x r => exact ih _ _ h.2
structure frame_All_In (s : Nat) (most : Int) (w0 W : World) (v : Value) (rows : List (List Int)) (nx : Int) : Prop where
  b5 : Boxed W s 3 (.int .i64 most)
  b6 : Boxed W (s + 1) 42 v
  b7 : Boxed W (s + 2) 3 (.int .i64 nx)
  row : Kd.R (Kd.slice 5 (Kd.int .u8)) 25 W (s + 7) (fun _ => True) v rows
  below : Below s w0 W
  size : s + 5 ≤ W.heap.size
theorem frame_All_In_step {s : Nat} {most : Int} {w0 A B : World} {v : Value} {rows : List (List Int)} {nx : Int} (h : frame_All_In s most w0 A v rows nx) {r : Nat} (hg : A.grownBy B (some r)) (h1 : s + 3 ≤ r) (h2 : r < s + 7) : frame_All_In s most w0 B v rows nx := by
  have hs := h.size
  refine ⟨(hg.block s (by omega) (fun e => by injection e with e; omega)).trans h.b5, (hg.block (s + 1) (by omega) (fun e => by injection e with e; omega)).trans h.b6, (hg.block (s + 2) (by omega) (fun e => by injection e with e; omega)).trans h.b7, ?_, ?_, Nat.le_trans hs hg.size⟩
  · exact Kd.R_mono (Kd.R_move (Kd.R_bound h.row) (fun k_ hk => hg.block k_ hk.2.2.1 (fun e => by injection e with e; have := hk.2.1; omega))) (fun _ hk => hk.1)
  · exact h.below.grown hg (by omega) (fun k_ e => by injection e with e; omega)
theorem frame_All_In_below {s : Nat} {most : Int} {w0 A B : World} {v : Value} {rows : List (List Int)} {nx : Int} (h : frame_All_In s most w0 A v rows nx) (hb : Below A.heap.size A B) : frame_All_In s most w0 B v rows nx := by
  have hs := h.size
  exact ⟨(hb.block s (by omega)).trans h.b5, (hb.block (s + 1) (by omega)).trans h.b6, (hb.block (s + 2) (by omega)).trans h.b7, Kd.R_below h.row hb, h.below.trans (hb.mono (by omega)), Nat.le_trans hs hb.size⟩
attribute [local go_sem] Oper.semAt_some
set_option maxHeartbeats 8000000 in
set_option maxRecDepth 100000 in
theorem frame_All_frames (n : Nat) (A0 : Option Addr) (m c0 : Nat) (a1 : Int) (w : World) : CallsIn Fence.wide n Try.prog 46 #[.slice A0 m c0, .int .i64 a1] w fun e w' =>
    e = .returned (.func (.func 62) #[] #[.pointer (some ⟨w.heap.size, 0, none⟩), .pointer (some ⟨w.heap.size + 1, 0, none⟩)]) ∧ w' = (w.alloc (.cells #[.slice A0 m c0] 25)).alloc (.cells #[.int .i64 a1] 3) := by
  refine callsIn_of_wp Try.func46 rfl trivial ?_ rfl
  simp only [Try.ntmps46, List.size_toArray, List.length_cons, List.length_nil, Nat.reduceAdd, Nat.reduceSub, Array.replicate_succ, Array.replicate_zero, List.push_toArray, List.append_toArray, List.nil_append, List.cons_append]
  gi_wp2
  go_ret
  exact ⟨rfl, rfl⟩
set_option maxHeartbeats 8000000 in
set_option maxRecDepth 100000 in
theorem frame_All_iter (k n : Nat) (s : Nat) (A0 : Option Addr) (c0 : Nat) (l0 : List Int) (a1 : Int) (xs : List (List Int × Int)) (fl : Bool) (w0 w : World) (hs : w0.heap.size = s) (hr0 : Kd.C (Kd.int .u8) w0 A0 l0.length l0) (hc0 : l0.length ≤ c0)
    (hch : frame_All_ch k l0 a1 xs fl) (hsz : w.heap.size = s + 5) (hB : Below s w0 w) (h3 : Boxed w (s + 3) 25 (.slice A0 l0.length c0)) (h4 : Boxed w (s + 4) 3 (.int .i64 a1)) :
    Go.Proofs.Ytdpodjgggicaoaa.H.StStops Fence.wide n Try.prog 62 #[.pointer (some ⟨s + 3, 0, none⟩), .pointer (some ⟨s + 4, 0, none⟩)] (fun x : Value × Int => #[x.1, .int .i64 x.2]) (s + 4)
      (fun A B => Below s A B ∧ B.heap[s + 3]? = A.heap[s + 3]? ∧ B.heap[s + 4]? = A.heap[s + 4]? ∧ A.heap.size ≤ B.heap.size)
      (fun j x W => ∃ y, xs[j]? = some y ∧ x.2 = y.2 ∧ Kd.R (Kd.int .u8) 5 W (s + 7) (fun _ => True) x.1 y.1) (fun j => j < xs.length ∨ fl = true) (fun j => j = xs.length ∧ fl = true) w := by
  intro l J Jx hJ hJx hGd hY W hW hWs h0
  refine callsIn_of_wp Try.func62 rfl trivial ?_ rfl
  simp only [Try.ntmps62, List.size_toArray, List.length_cons, List.length_nil, Nat.reduceAdd, Nat.reduceSub, Array.replicate_succ, Array.replicate_zero, List.push_toArray, List.append_toArray, List.nil_append, List.cons_append]
  gi_wp2
  gi_loopg [] xs.length (fun d wr => ∃ (j : Nat), j + d = xs.length ∧ J j wr ∧ Below s w0 wr ∧ Boxed wr (s + 3) 25 (.slice A0 l0.length c0) ∧ Boxed wr (s + 4) 3 (.int .i64 (frame_All_last a1 (xs.take j))) ∧ s + 7 ≤ wr.heap.size)
  case atStart =>
    refine ⟨0, by omega, h0, hB.trans hW.1, ?_, ?_, by omega⟩
    · exact hW.2.1.trans h3
    · exact hW.2.2.1.trans h4
  case round =>
    obtain ⟨j, hj, hJj, hBj, hb3, hb4, hsz7⟩ := hrel
    have hd := frame_All_ch_drop k l0 fl j a1 xs hch
    generalize hat : frame_All_last a1 (xs.take j) = at_ at hd hb4
    have q3 := hb3.cell
    have q4 := hb4.cell
    cases hrest : xs.drop j with
    | nil =>
      rw [hrest] at hd
      have hjn : j = xs.length := by have h_ := congrArg List.length hrest; rw [List.length_drop, List.length_nil] at h_; omega
      have hfl : fl = true := by
        rcases hGd j wr hJj with h | h
        · omega
        · exact h
      obtain ⟨⟨b, nx, e⟩, hg, he⟩ := hd hfl
      have GC := frame_Get.calls k A0 c0 l0 at_ b nx e wr (Kd.C_below hr0 (hs ▸ hBj)) hc0 hg
      have ceb : (e != 0) = true := bne_iff_ne.mpr he
      gi_wp2_with (refine ⟨trivial, fun h_ => by simp [Fence.wide] at h_, ?_⟩; gi_at_call 22; refine (callsIn_wide.2 GC).mono ?_; clear GC; rintro e' w1 ⟨v, rfl, hv, hb⟩; obtain ⟨Ab, cb, rfl⟩ := Kd.R_slice hv)
      refine ⟨fun _ h_ => (by cases h_), ?_⟩
      gi_wp2
      refine bodyPost_ret (results_none rfl _ _ _) rfl ?_
      exact ⟨⟨_, rfl⟩, .inl ⟨j, ⟨hjn, hfl⟩, hJ j _ _ hJj ⟨hb.os, hb.tape, hb.output, hb.size, fun k_ hk _ => hb.block k_ hk⟩⟩⟩
    | cons y r =>
      rw [hrest] at hd
      obtain ⟨hg, hd2⟩ := hd
      have hjl : j < xs.length := by have h_ := congrArg List.length hrest; rw [List.length_drop, List.length_cons] at h_; omega
      have hyj : xs[j]? = some y := by
        have h_ := List.drop_eq_getElem_cons hjl
        rw [hrest] at h_
        injection h_ with h1 _
        rw [List.getElem?_eq_getElem hjl, h1]
      have GC := frame_Get.calls k A0 c0 l0 at_ y.1 y.2 0 wr (Kd.C_below hr0 (hs ▸ hBj)) hc0 hg
      gi_wp2_with (refine ⟨trivial, fun h_ => by simp [Fence.wide] at h_, ?_⟩; gi_at_call 22; refine (callsIn_wide.2 GC).mono ?_; clear GC; rintro e' w1 ⟨v, rfl, hv, hb⟩; have hv7 := Kd.R_lower hv hsz7; obtain ⟨Ab, cb, rfl⟩ := Kd.R_slice hv; obtain ⟨fn, tmps, assign, body, hy, hR⟩ := hY j (.slice Ab y.1.length cb, y.2) w1 (hJ j _ _ hJj ⟨hb.os, hb.tape, hb.output, hb.size, fun k_ hk _ => hb.block k_ hk⟩) ⟨y, hyj, rfl, hv7⟩; dsimp only at hy)
      refine ⟨fun h_ => by simp [Fence.wide] at h_, hR.mono ?_⟩
      rintro e W3 (⟨rfl, hJ3, hk3⟩ | ⟨rfl, hJx3⟩)
      · have hb5 : Boxed W3 (s + 4) 3 (.int .i64 at_) := hk3.2.2.1.trans ((hb.block (s + 4) (by omega)).trans hb4)
        have hb6 : Boxed W3 (s + 3) 25 (.slice A0 l0.length c0) := hk3.2.1.trans ((hb.block (s + 3) (by omega)).trans hb3)
        have q5 := hb5.cell
        have q6 := hb5.frozen
        have hBw1 : Below s wr w1 := hb.mono (by omega)
        have hsz1 := hb.size
        gi_wp2
        gi_roundg (xs.length - (j + 1))
        case measure => omega
        case rel =>
          refine ⟨j + 1, by omega, hJ _ _ _ hJ3 (grownBy_setCell' W3 (s + 4) _), ((hBj.trans hBw1).trans hk3.1).setCell (p := ⟨s + 4, 0, none⟩) (by simp) _, ?_, ?_, ?_⟩
          · exact (Below.heap_setCell W3 ⟨s + 4, 0, none⟩ _ (s + 3) (by simp)).trans hb6
          · rw [List.take_add_one, hyj, Option.toList_some, frame_All_last_snoc]
            exact hb5.set _
          · have h_ := hk3.2.2.2
            simp only [World.setCell, Array.size_modify]
            omega
      · gi_wp2
        refine bodyPost_ret (results_none rfl _ _ _) rfl ?_
        exact ⟨⟨_, rfl⟩, .inr ⟨j + 1, hJx3⟩⟩
theorem frame_All_round {s : Nat} {most : Int} {w0 W : World} {v : Value} {rows : List (List Int)} {nx : Int} (h : frame_All_In s most w0 W v rows nx) (hs7 : s + 7 ≤ W.heap.size) {y : List Int} {u : Value} (hR : Kd.R (Kd.int .u8) 5 W (s + 7) (fun _ => True) u y) {inner : List Value}
    (hown : W.ownsRow (s + 7) 25 1 v rows.length inner) (hr : Reps ((Kd.slice 5 (Kd.int .u8)).M W (s + 7) (fun k => True ∧ some k ≠ v.ownBlock)) 1 rows inner) {tmp : Obj} {v' : Value} {w1 : World}
    (hown' : w1.ownsRow (s + 7) 25 1 v' (rows.length + 1) (inner ++ [u])) (hgrow : (W.alloc tmp).grownBy w1 v.ownBlock) (hat : v'.ownBlock = v.ownBlock ∨ v'.ownBlock = some (W.alloc tmp).heap.size) (nx' : Int) :
    (Boxed w1 (s + 1) 42 v ∧ Boxed (w1.setCell ⟨s + 1, 0, none⟩ v') (s + 2) 3 (.int .i64 nx)) ∧ frame_All_In s most w0 ((w1.setCell ⟨s + 1, 0, none⟩ v').setCell ⟨s + 2, 0, none⟩ (.int .i64 nx')) v' (rows ++ [y]) nx' ∧
    KeepsFrom (s + 5) W ((w1.setCell ⟨s + 1, 0, none⟩ v').setCell ⟨s + 2, 0, none⟩ (.int .i64 nx')) ∧
    (Below s W ((w1.setCell ⟨s + 1, 0, none⟩ v').setCell ⟨s + 2, 0, none⟩ (.int .i64 nx')) ∧ ((w1.setCell ⟨s + 1, 0, none⟩ v').setCell ⟨s + 2, 0, none⟩ (.int .i64 nx')).heap[s + 3]? = W.heap[s + 3]? ∧ ((w1.setCell ⟨s + 1, 0, none⟩ v').setCell ⟨s + 2, 0, none⟩ (.int .i64 nx')).heap[s + 4]? = W.heap[s + 4]? ∧ W.heap.size ≤ ((w1.setCell ⟨s + 1, 0, none⟩ v').setCell ⟨s + 2, 0, none⟩ (.int .i64 nx')).heap.size) := by
  have hg : W.grownBy w1 v.ownBlock := (World.grownBy_alloc W tmp _).trans hgrow
  have hvb : ∀ k_, v.ownBlock = some k_ → s + 7 ≤ k_ := fun k_ e => (hown.lt k_ e).1
  have hvb' : ∀ k_, v'.ownBlock = some k_ → s + 7 ≤ k_ := fun k_ e => (hown'.lt k_ e).1
  have old : ∀ k_, k_ < s + 7 → w1.heap[k_]? = W.heap[k_]? := fun k_ hk => hg.block k_ (by omega) (fun e => by have := hvb k_ e.symm; omega)
  have old2 : ∀ k_, k_ ≠ s + 1 → k_ ≠ s + 2 → ((w1.setCell ⟨s + 1, 0, none⟩ v').setCell ⟨s + 2, 0, none⟩ (.int .i64 nx')).heap[k_]? = w1.heap[k_]? := fun k_ h1 h2 =>
    (Below.heap_setCell _ ⟨s + 2, 0, none⟩ _ k_ h2).trans (Below.heap_setCell _ ⟨s + 1, 0, none⟩ _ k_ h1)
  have hM : (Kd.slice 5 (Kd.int .u8)).M W (s + 7) (fun k => some k ≠ v.ownBlock) y [u] := ⟨u, rfl, Kd.R_mono (Kd.R_bound hR) (fun k_ hk e => by
    obtain ⟨_, _, _, q, hq, cells, hcl⟩ := hk
    obtain ⟨cells2, hcl2⟩ := own_typed hown k_ e.symm
    rw [hcl] at hcl2
    injection hcl2 with hcl2
    injection hcl2 with _ hcl2
    rcases List.mem_cons.1 hq with rfl | hq
    · exact absurd hcl2 (by decide)
    · have h2 : q ∈ ([] : List Nat) := hq
      cases h2)⟩
  have hap := Kd.R_appended (d := Kd.slice 5 (Kd.int .u8)) (ok := fun _ => True) (fun _ _ => trivial) hr hM (fun _ hk => ⟨trivial, hk⟩) (fun _ _ => trivial) hown' hg (by
    rcases hat with h | h
    · exact .inl h
    · exact .inr ⟨_, h, by simp⟩)
  have hsz := hg.size
  have b6 : Boxed w1 (s + 1) 42 v := (old _ (by omega)).trans h.b6
  have b7 : Boxed w1 (s + 2) 3 (.int .i64 nx) := (old _ (by omega)).trans h.b7
  have b7' : Boxed (w1.setCell ⟨s + 1, 0, none⟩ v') (s + 2) 3 (.int .i64 nx) := (Below.heap_setCell _ ⟨s + 1, 0, none⟩ _ (s + 2) (by simp)).trans b7
  have hsz3 : ((w1.setCell ⟨s + 1, 0, none⟩ v').setCell ⟨s + 2, 0, none⟩ (.int .i64 nx')).heap.size = w1.heap.size := by simp [World.setCell]
  have hBs : Below s W w1 := (Below.refl s W).grown hg (by omega) (fun k_ e => by have := hvb k_ e; omega)
  have hB3 : Below s W ((w1.setCell ⟨s + 1, 0, none⟩ v').setCell ⟨s + 2, 0, none⟩ (.int .i64 nx')) := (hBs.setCell (p := ⟨s + 1, 0, none⟩) (by simp) _).setCell (p := ⟨s + 2, 0, none⟩) (by simp) _
  refine ⟨⟨b6, b7'⟩, ⟨?_, ?_, b7'.set _, ?_, h.below.trans hB3, by omega⟩, ?_, hB3, (old2 _ (by omega) (by omega)).trans (old _ (by omega)), (old2 _ (by omega) (by omega)).trans (old _ (by omega)), by omega⟩
  · exact (old2 s (by omega) (by omega)).trans ((old s (by omega)).trans h.b5)
  · exact (Below.heap_setCell _ ⟨s + 2, 0, none⟩ _ (s + 1) (by simp)).trans (b6.set v')
  · exact Kd.R_mono (Kd.R_move (Kd.R_bound hap) (fun k_ hk => old2 k_ (by have := hk.2.1; omega) (by have := hk.2.1; omega))) (fun _ hk => hk.1)
  · refine ⟨by omega, fun k_ o hk ho hc => ?_⟩
    rw [old2 k_ (by omega) (by omega)]
    refine (hg.block k_ (Array.getElem?_eq_some_iff.1 ho).1 (fun e => ?_)).trans ho
    obtain ⟨cells2, hcl2⟩ := own_typed hown k_ e.symm
    rw [ho] at hcl2
    injection hcl2 with hcl2
    rw [hcl2] at hc
    exact absurd hc (by simp [Obj.isCells])
theorem frame_All_fin {s : Nat} {W : World} {v x x' : Value} (b6 : Boxed W (s + 1) 42 v) (b7 : Boxed W (s + 2) 3 x') :
    Boxed ((W.setCell ⟨s + 1, 0, none⟩ v).setCell ⟨s + 2, 0, none⟩ x).drew (s + 1) 42 v ∧ Boxed ((W.setCell ⟨s + 1, 0, none⟩ v).setCell ⟨s + 2, 0, none⟩ x).drew (s + 2) 3 x ∧
    (∀ k_, k_ ≠ s + 1 → k_ ≠ s + 2 → ((W.setCell ⟨s + 1, 0, none⟩ v).setCell ⟨s + 2, 0, none⟩ x).drew.heap[k_]? = W.heap[k_]?) ∧ Below s W ((W.setCell ⟨s + 1, 0, none⟩ v).setCell ⟨s + 2, 0, none⟩ x).drew := by
  have b7' : Boxed (W.setCell ⟨s + 1, 0, none⟩ v) (s + 2) 3 x' := (Below.heap_setCell _ ⟨s + 1, 0, none⟩ _ (s + 2) (by simp)).trans b7
  refine ⟨(Below.heap_setCell _ ⟨s + 2, 0, none⟩ _ (s + 1) (by simp)).trans (b6.set v), b7'.set x, fun k_ h1 h2 => (Below.heap_setCell _ ⟨s + 2, 0, none⟩ _ k_ h2).trans (Below.heap_setCell _ ⟨s + 1, 0, none⟩ _ k_ h1), ?_⟩
  exact (((Below.refl s W).setCell (p := ⟨s + 1, 0, none⟩) (by simp) _).setCell (p := ⟨s + 2, 0, none⟩) (by simp) _).drew
theorem frame_All_res {tmps : Array Value} {W2 : World} {s : Nat} {v x : Value} (h6 : tmps.getD 6 undef = .pointer (some ⟨s + 1, 0, none⟩)) (h7 : tmps.getD 7 undef = .pointer (some ⟨s + 2, 0, none⟩)) (c6 : W2.cell? ⟨s + 1, 0, none⟩ = some v) (c7 : W2.cell? ⟨s + 2, 0, none⟩ = some x) : (results Try.f24 tmps).run Try.prog W2 = .ok (.tuple #[v, x]) W2 := by
  have e : Try.f24.results = #[.cell 6 42, .cell 7 3] := rfl
  have u1 := Try.underlying42
  have u2 := Try.underlying3
  have h6' : tmps[6]?.getD undef = .pointer (some ⟨s + 1, 0, none⟩) := by simpa using h6
  have h7' : tmps[7]?.getD undef = .pointer (some ⟨s + 2, 0, none⟩) := by simpa using h7
  simp [results, e, h6', h7', asAddr, loadVar, isAgg, u1, u2, c6, c7, go_sem]
set_option maxHeartbeats 8000000 in
set_option maxRecDepth 100000 in
theorem frame_All.calls (k : Nat) (A0 : Option Addr) (c0 : Nat) (l0 : List Int) (a1 a2 : Int) (r1 : List (List Int)) (r2 : Int) (w : World) (hr0 : Kd.C (Kd.int .u8) w A0 l0.length l0) (hc0 : l0.length ≤ c0) (h : frame_All.f k l0 a1 a2 = some (r1, r2)) :
    Calls Try.prog 24 #[.slice A0 l0.length c0, .int .i64 a1, .int .i64 a2] w fun e w' => ∃ v0_ : Value, e = .returned (.tuple #[v0_, .int .i64 r2]) ∧ Kd.R (Kd.slice 5 (Kd.int .u8)) 25 w' w.heap.size (fun _ => True) v0_ r1 ∧ Below w.heap.size w w' := by
  unfold frame_All.f at h
  by_cases c : a2 < 1
  · rw [if_pos c] at h
    injection h with h
    injection h with h1 h2
    subst h1 h2
    have cb : decide (a2 < 1) = true := decide_eq_true c
    go_enter Try.func24, Try.ntmps24
    go_wp2_with (fail)
    obtain ⟨W, hW⟩ : ∃ W, ((w.alloc (.cells #[.int .i64 a2] 3)).alloc (.cells #[.slice none 0 0] 42)).alloc (.cells #[.int .i64 a1] 3) = W := ⟨_, rfl⟩
    have hB : Below w.heap.size w W := by rw [← hW]; exact below_alloc (below_alloc (below_alloc (Below.refl _ w) _) _) _
    have b6 : Boxed W (w.heap.size + 1) 42 (.slice none 0 0) := by
      rw [← hW]
      have h_ := Boxed.new (w.alloc (.cells #[.int .i64 a2] 3)) 42 (.slice none 0 0)
      rw [World.size_alloc] at h_
      exact h_.alloc _
    have b7 : Boxed W (w.heap.size + 2) 3 (.int .i64 a1) := by
      rw [← hW]
      have h_ := Boxed.new ((w.alloc (.cells #[.int .i64 a2] 3)).alloc (.cells #[.slice none 0 0] 42)) 3 (.int .i64 a1)
      rw [World.size_alloc, World.size_alloc] at h_
      exact h_
    rw [hW]
    clear hW
    simp only [Nat.add_assoc, Nat.reduceAdd]
    obtain ⟨s, hs⟩ : ∃ s, w.heap.size = s := ⟨_, rfl⟩
    rw [hs] at hB b6 b7 ⊢
    have g6 := b6.cell
    have g7 := b7.cell
    have k6 := b6.frozen
    have k7 := b7.frozen
    have m7 : ∀ u, (W.setCell ⟨s + 1, 0, none⟩ u).cell? ⟨s + 2, 0, none⟩ = W.cell? ⟨s + 2, 0, none⟩ := fun u => World.cell?_of_block (Below.heap_setCell W ⟨s + 1, 0, none⟩ u (s + 2) (by simp))
    have n7 : ∀ u, (W.setCell ⟨s + 1, 0, none⟩ u).frozen? ⟨s + 2, 0, none⟩ = W.frozen? ⟨s + 2, 0, none⟩ := fun u => World.frozen?_of_block (Below.heap_setCell W ⟨s + 1, 0, none⟩ u (s + 2) (by simp))
    go_region
    obtain ⟨f6, f7, fo, fb⟩ := frame_All_fin (x := .int .i64 a1) b6 b7
    generalize ((W.setCell ⟨s + 1, 0, none⟩ (.slice none 0 0)).setCell ⟨s + 2, 0, none⟩ (.int .i64 a1)).drew = W2 at f6 f7 fo fb ⊢
    have c6 := f6.cell
    have c7 := f7.cell
    go_wp2_with (fail)
    refine bodyPost_ret (frame_All_res rfl rfl c6 c7) rfl ?_
    exact ⟨_, rfl, Kd.R_nil _ _ _ _ _, hs ▸ hB.trans fb⟩
  rw [if_neg c] at h
  obtain ⟨⟨xs, fl⟩, hgo, h2⟩ := Option.bind_eq_some_iff.mp h
  have h2 : (if xs.length ≤ 1000000 then some (xs.map (·.1), frame_All_last a1 xs) else none) = some (r1, r2) := h2
  by_cases hlen : xs.length ≤ 1000000
  case neg => rw [if_neg hlen] at h2; cases h2
  rw [if_pos hlen] at h2
  injection h2 with h2
  injection h2 with h3 h4
  subst h3 h4
  obtain ⟨hch, hc1, hc2⟩ := frame_All_go_ch k l0 _ _ _ _ hgo
  have cb : decide (a2 < 1) = false := decide_eq_false c
  refine (callsIn_wide (n := 5)).1 ?_
  refine callsIn_of_wp_marks Try.func24 rfl trivial ?_ rfl
  simp only [Try.ntmps24, List.size_toArray, List.length_cons, List.length_nil, Nat.reduceAdd, Nat.reduceSub, Array.replicate_succ, Array.replicate_zero, List.push_toArray, List.append_toArray, List.nil_append, List.cons_append]
  gi_wp2_with (refine ⟨trivial, ?_⟩; gi_at_call 46; refine (frame_All_frames _ _ _ _ _ _).mono ?_; rintro e w' ⟨rfl, rfl⟩)
  obtain ⟨W0, hW0⟩ : ∃ W0, (((((w.alloc (.cells #[.int .i64 a2] 3)).alloc (.cells #[.slice none 0 0] 42)).alloc (.cells #[.int .i64 a1] 3)).alloc (.cells #[.slice A0 l0.length c0] 25)).alloc (.cells #[.int .i64 a1] 3)) = W0 := ⟨_, rfl⟩
  have hsz : W0.heap.size = w.heap.size + 5 := by rw [← hW0]; simp
  have hB0 : Below w.heap.size w W0 := by rw [← hW0]; exact below_alloc (below_alloc (below_alloc (below_alloc (below_alloc (Below.refl _ w) _) _) _) _) _
  have b5 : Boxed W0 w.heap.size 3 (.int .i64 a2) := by rw [← hW0]; exact ((((Boxed.new w 3 (.int .i64 a2)).alloc _).alloc _).alloc _).alloc _
  have b6 : Boxed W0 (w.heap.size + 1) 42 (.slice none 0 0) := by
    rw [← hW0]
    have h_ := Boxed.new (w.alloc (.cells #[.int .i64 a2] 3)) 42 (.slice none 0 0)
    rw [World.size_alloc] at h_
    exact ((h_.alloc _).alloc _).alloc _
  have b7 : Boxed W0 (w.heap.size + 2) 3 (.int .i64 a1) := by
    rw [← hW0]
    have h_ := Boxed.new ((w.alloc (.cells #[.int .i64 a2] 3)).alloc (.cells #[.slice none 0 0] 42)) 3 (.int .i64 a1)
    rw [World.size_alloc, World.size_alloc] at h_
    exact (h_.alloc _).alloc _
  have b8 : Boxed W0 (w.heap.size + 3) 25 (.slice A0 l0.length c0) := by
    rw [← hW0]
    have h_ := Boxed.new (((w.alloc (.cells #[.int .i64 a2] 3)).alloc (.cells #[.slice none 0 0] 42)).alloc (.cells #[.int .i64 a1] 3)) 25 (.slice A0 l0.length c0)
    rw [World.size_alloc, World.size_alloc, World.size_alloc] at h_
    exact h_.alloc _
  have b9 : Boxed W0 (w.heap.size + 4) 3 (.int .i64 a1) := by
    rw [← hW0]
    have h_ := Boxed.new ((((w.alloc (.cells #[.int .i64 a2] 3)).alloc (.cells #[.slice none 0 0] 42)).alloc (.cells #[.int .i64 a1] 3)).alloc (.cells #[.slice A0 l0.length c0] 25)) 3 (.int .i64 a1)
    rw [World.size_alloc, World.size_alloc, World.size_alloc, World.size_alloc] at h_
    exact h_
  rw [hW0]
  clear hW0
  simp only [Nat.add_assoc, Nat.reduceAdd]
  obtain ⟨s, hs⟩ : ∃ s, w.heap.size = s := ⟨_, rfl⟩
  rw [hs] at hsz hB0 b5 b6 b7 b8 b9 ⊢
  obtain ⟨i0, hi, hz0, hz1, hz2⟩ := info_parts info25
  have hKt : ∀ {A B C : World}, (Below s A B ∧ B.heap[s + 3]? = A.heap[s + 3]? ∧ B.heap[s + 4]? = A.heap[s + 4]? ∧ A.heap.size ≤ B.heap.size) → (Below s B C ∧ C.heap[s + 3]? = B.heap[s + 3]? ∧ C.heap[s + 4]? = B.heap[s + 4]? ∧ B.heap.size ≤ C.heap.size) → (Below s A C ∧ C.heap[s + 3]? = A.heap[s + 3]? ∧ C.heap[s + 4]? = A.heap[s + 4]? ∧ A.heap.size ≤ C.heap.size) :=
    fun h k => ⟨h.1.trans k.1, k.2.1.trans h.2.1, k.2.2.1.trans h.2.2.1, Nat.le_trans h.2.2.2 k.2.2.2⟩
  refine Go.Proofs.Ytdpodjgggicaoaa.H.rangeFunc_st (F := Fence.wide) (n := 5) rfl (by decide) (gf := 62) (lb := #[.pointer (some ⟨s + 3, 0, none⟩), .pointer (some ⟨s + 4, 0, none⟩)]) rfl trivial (enters_of Try.func62 (by kernel_rfl) rfl)
    (c := s + 4) (by omega) (frame_All_iter k 4 s A0 c0 l0 a1 xs fl w W0 hs hr0 hc0 hch hsz hB0 b8 b9) hKt ⟨Below.refl _ _, rfl, rfl, Nat.le_refl _⟩
    (fun W o hW => ⟨(Below.refl s W).alloc (by omega) o, Below.heap_alloc W o _ (by omega), Below.heap_alloc W o _ (by omega), by simp⟩)
    (fun W l o hl => ⟨⟨rfl, rfl, rfl, by simp, fun k_ hk => World.putObj_heap_other (by omega)⟩, World.putObj_heap_other (by omega), World.putObj_heap_other (by omega), by simp⟩)
    (fun j x W o hP => by
      obtain ⟨y, h1, h2, h3⟩ := hP
      exact ⟨y, h1, h2, Kd.R_mono (Kd.R_move (Kd.R_bound h3) (fun k_ hk => World.putObj_heap_other (by have := hk.2.1; omega))) (fun _ hk => hk.1)⟩)
    (fun _ => rfl)
    (fun j W => ∃ v, frame_All_In s a2 w W v ((xs.take j).map (·.1)) (frame_All_last a1 (xs.take j)) ∧ (j < xs.length ∨ fl = true))
    (fun id j W => id = 0 ∧ ∃ v, frame_All_In s a2 w W v (xs.map (·.1)) (frame_All_last a1 xs))
    (fun j A B r hI hg hr => by
      obtain ⟨v, h1, h2⟩ := hI
      exact ⟨v, frame_All_In_step h1 hg (by omega) (by omega), h2⟩)
    (fun j W o hI hW => by
      obtain ⟨v, h1, h2⟩ := hI
      exact ⟨v, frame_All_In_below h1 (below_alloc (Below.refl _ _) o), h2⟩)
    (fun id j A B r hI hg hr => by
      obtain ⟨h0, v, h1⟩ := hI
      exact ⟨h0, v, frame_All_In_step h1 hg (by omega) (by omega)⟩)
    (fun j W hI => by obtain ⟨_, _, h2⟩ := hI; exact h2)
    ⟨.slice none 0 0, ⟨b5, b6, b7, Kd.R_nil _ _ _ _ _, hB0, by omega⟩, by
      cases fl with
      | true => exact .inr rfl
      | false => have := hc2 rfl; exact .inl (by omega)⟩
    (fun x => { tmps := #[.slice A0 l0.length c0, .int .i64 a1, .int .i64 a2, undef, undef, .pointer (some ⟨s, 0, none⟩), .pointer (some ⟨s + 1, 0, none⟩), .pointer (some ⟨s + 2, 0, none⟩), x.1, .int .i64 x.2, .int .i64 a1, .int .i64 a2, .bool false, undef, .slice A0 l0.length c0, .int .i64 a1, .func (.func 62) #[] #[.pointer (some ⟨s + 3, 0, none⟩), .pointer (some ⟨s + 4, 0, none⟩)], x.1, .int .i64 x.2, undef, undef, undef, undef, undef, undef, undef, undef, undef, undef, undef], defers := [] }) ?assign ?body ?done ?stop
  case assign =>
    intro l x W K hK
    gi_wp2
    exact hK
  case body =>
    rintro l j ⟨xv, xn⟩ W ⟨v, hIn, hgd⟩ ⟨y, hyj, hx2, hR⟩ hsz7
    have hx2 : xn = y.2 := hx2
    subst hx2
    have hR : Kd.R (Kd.int .u8) 5 W (s + 7) (fun _ => True) xv y.1 := hR
    obtain ⟨Ab, cb_, rfl⟩ := Kd.R_slice hR
    have hjl : j < xs.length := (List.getElem?_eq_some_iff.1 hyj).1
    have hs7 : s + 7 ≤ W.heap.size := by omega
    obtain ⟨h0_, inner, hown, hrp⟩ := hIn.row
    have hrl : ((xs.take j).map (·.1)).length = j := by rw [List.length_map, List.length_take]; omega
    have hct : (xs.take (j + 1)).map (·.1) = (xs.take j).map (·.1) ++ [y.1] := by rw [List.take_add_one, hyj, Option.toList_some, List.map_append]; rfl
    have hln : frame_All_last a1 (xs.take (j + 1)) = y.2 := by rw [List.take_add_one, hyj, Option.toList_some, frame_All_last_snoc]
    have hc5 := hIn.b5.cell
    have hc6 := hIn.b6.cell
    have hc7 := hIn.b7.cell
    have hown1 : W.ownsRow (s + 7) 25 1 v ((xs.take j).map (·.1)).length inner := hown
    have hlen1 : ((xs.take j).map (·.1)).length + 1 ≤ 1000001 := by omega
    have hl9 : ((xs.take j).map (·.1) ++ [y.1]).length = j + 1 := by rw [List.length_append, hrl]; rfl
    by_cases he : ((j + 1 : Nat) : Int) = a2
    · have heb : (((j + 1 : Nat) : Int) == a2) = true := by rw [he]; exact beq_self_eq_true _
      have hfl : xs.length = j + 1 := by
        cases fl with
        | true => have := hc1 rfl; omega
        | false => have := hc2 rfl; omega
      have htk : xs.take (j + 1) = xs := List.take_of_length_le (by omega)
      rw [htk] at hct hln
      have HCT := Aside0.mk hct
      have HLN := Aside0.mk hln
      have HL9 := Aside0.mk hl9
      have HRL := Aside0.mk hrl
      clear he hfl htk hct hln
      gi_wp2_with (gi_at_builtin; refine wpListIn_append_own_at _ rfl _ _ 42 rfl (s + 7) 25 i0 (.slice none 0 0) 1 24 Try.underlying42 hi hz0 hz1 hz2 rfl (by decide) v ((xs.take j).map (·.1)).length inner rfl (hown1.alloc _) ⟨W.heap.size, 0, none⟩ 1 1 [.slice Ab y.1.length cb_] rfl rfl (cell_one_new _ _ _) (by simp [Value.oneCell']) (by unfold maxLen; omega) (by omega) (by simp; omega) ?_; intro v' w1 hown' hgrow _ hat; obtain ⟨⟨d6, d7⟩, dIn, dK, dKp⟩ := frame_All_round hIn hs7 hR hown1 hrp hown' hgrow hat y.2; obtain ⟨A9, c9, e9⟩ := Kd.R_slice dIn.row; rw [hl9] at e9; subst e9; have e6 := d6.cell; have f6 := d6.frozen; have e7 := d7.cell; have f7 := d7.frozen; have g5 := dIn.b5.cell; have g6 := dIn.b6.cell)
      exact ⟨dK, rfl, _, by rw [HCT.out, HLN.out]; exact dIn⟩
    · have heb : (((j + 1 : Nat) : Int) == a2) = false := beq_eq_false_iff_ne.2 he
      have hgd2 : j + 1 < xs.length ∨ fl = true := by
        cases fl with
        | true => exact .inr rfl
        | false => have := hc2 rfl; exact .inl (by omega)
      clear he
      gi_wp2_with (gi_at_builtin; refine wpListIn_append_own_at _ rfl _ _ 42 rfl (s + 7) 25 i0 (.slice none 0 0) 1 24 Try.underlying42 hi hz0 hz1 hz2 rfl (by decide) v ((xs.take j).map (·.1)).length inner rfl (hown1.alloc _) ⟨W.heap.size, 0, none⟩ 1 1 [.slice Ab y.1.length cb_] rfl rfl (cell_one_new _ _ _) (by simp [Value.oneCell']) (by unfold maxLen; omega) (by omega) (by simp; omega) ?_; intro v' w1 hown' hgrow _ hat; obtain ⟨⟨d6, d7⟩, dIn, dK, dKp⟩ := frame_All_round hIn hs7 hR hown1 hrp hown' hgrow hat y.2; obtain ⟨A9, c9, e9⟩ := Kd.R_slice dIn.row; rw [hl9] at e9; subst e9; have e6 := d6.cell; have f6 := d6.frozen; have e7 := d7.cell; have f7 := d7.frozen; have g5 := dIn.b5.cell; have g6 := dIn.b6.cell)
      exact ⟨dK, dKp, ⟨_, by rw [← List.map_take, hct, hln]; exact dIn⟩, hgd2⟩
  case done =>
    rintro D j W hD ⟨rfl, hfl⟩ ⟨v, hIn, _⟩ hK
    rw [List.take_of_length_le (Nat.le_refl _)] at hIn
    have g6 := hIn.b6.cell
    have g7 := hIn.b7.cell
    have k6 := hIn.b6.frozen
    have k7 := hIn.b7.frozen
    obtain ⟨A9, c9, rfl⟩ := Kd.R_slice hIn.row
    gi_wp2
    have m7 : ∀ u, (W.setCell ⟨s + 1, 0, none⟩ u).cell? ⟨s + 2, 0, none⟩ = W.cell? ⟨s + 2, 0, none⟩ := fun u => World.cell?_of_block (Below.heap_setCell W ⟨s + 1, 0, none⟩ u (s + 2) (by simp))
    have n7 : ∀ u, (W.setCell ⟨s + 1, 0, none⟩ u).frozen? ⟨s + 2, 0, none⟩ = W.frozen? ⟨s + 2, 0, none⟩ := fun u => World.frozen?_of_block (Below.heap_setCell W ⟨s + 1, 0, none⟩ u (s + 2) (by simp))
    refine wpIn_wide.2 ?_
    go_region
    obtain ⟨f6, f7, fo, fb⟩ := frame_All_fin (x := .int .i64 (frame_All_last a1 xs)) hIn.b6 hIn.b7
    have hrow := Kd.R_mono (Kd.R_move (w1 := ((W.setCell ⟨s + 1, 0, none⟩ (.slice A9 (xs.map (·.1)).length c9)).setCell ⟨s + 2, 0, none⟩ (.int .i64 (frame_All_last a1 xs))).drew) (Kd.R_bound hIn.row) (fun k_ hk => fo k_ (by have := hk.2.1; omega) (by have := hk.2.1; omega))) (fun _ hk => hk.1)
    have hK2 := (fo D (by omega) (by omega)).trans hK
    rw [List.length_map] at f6 f7 fo fb hrow hK2
    generalize ((W.setCell ⟨s + 1, 0, none⟩ (.slice A9 xs.length c9)).setCell ⟨s + 2, 0, none⟩ (.int .i64 (frame_All_last a1 xs))).drew = W2 at f6 f7 fo fb hrow hK2 ⊢
    have c6 := f6.cell
    have c7 := f7.cell
    gi_wp2
    have hDs := (Array.getElem?_eq_some_iff.1 hK2).1
    have c6' : (W2.putObj D (.deferred none)).cell? ⟨s + 1, 0, none⟩ = some (.slice A9 xs.length c9) := (World.cell?_of_block (World.putObj_heap_other (by simp; omega))).trans c6
    have c7' : (W2.putObj D (.deferred none)).cell? ⟨s + 2, 0, none⟩ = some (.int .i64 (frame_All_last a1 xs)) := (World.cell?_of_block (World.putObj_heap_other (by simp; omega))).trans c7
    refine ⟨by simp, .inl ⟨_, _, rfl, run_takeDeferred hK2, ?_⟩⟩
    refine ⟨_, frame_All_res rfl rfl c6' c7', _, rfl, ?_, ?_⟩
    · refine Kd.R_lower (Kd.R_mono (Kd.R_move (Kd.R_bound hrow) (fun k_ hk => World.putObj_heap_other (fun e => ?_))) (fun _ hk => hk.1)) (by omega)
      obtain ⟨_, _, _, q_, _, cells_, hcl⟩ := hk
      rw [e, hK2] at hcl
      cases hcl
    · rw [hs]
      exact (hIn.below.trans fb).trans ⟨rfl, rfl, rfl, by simp, fun k_ hk => World.putObj_heap_other (by omega)⟩
  case stop =>
    rintro D id j W hD ⟨rfl, v, hIn⟩ hK
    have g6 := hIn.b6.cell
    have g7 := hIn.b7.cell
    have k6 := hIn.b6.frozen
    have k7 := hIn.b7.frozen
    obtain ⟨A9, c9, rfl⟩ := Kd.R_slice hIn.row
    gi_wp2
    have m7 : ∀ u, (W.setCell ⟨s + 1, 0, none⟩ u).cell? ⟨s + 2, 0, none⟩ = W.cell? ⟨s + 2, 0, none⟩ := fun u => World.cell?_of_block (Below.heap_setCell W ⟨s + 1, 0, none⟩ u (s + 2) (by simp))
    have n7 : ∀ u, (W.setCell ⟨s + 1, 0, none⟩ u).frozen? ⟨s + 2, 0, none⟩ = W.frozen? ⟨s + 2, 0, none⟩ := fun u => World.frozen?_of_block (Below.heap_setCell W ⟨s + 1, 0, none⟩ u (s + 2) (by simp))
    refine wpIn_wide.2 ?_
    go_region
    obtain ⟨f6, f7, fo, fb⟩ := frame_All_fin (x := .int .i64 (frame_All_last a1 xs)) hIn.b6 hIn.b7
    have hrow := Kd.R_mono (Kd.R_move (w1 := ((W.setCell ⟨s + 1, 0, none⟩ (.slice A9 (xs.map (·.1)).length c9)).setCell ⟨s + 2, 0, none⟩ (.int .i64 (frame_All_last a1 xs))).drew) (Kd.R_bound hIn.row) (fun k_ hk => fo k_ (by have := hk.2.1; omega) (by have := hk.2.1; omega))) (fun _ hk => hk.1)
    have hK2 := (fo D (by omega) (by omega)).trans hK
    rw [List.length_map] at f6 f7 fo fb hrow hK2
    generalize ((W.setCell ⟨s + 1, 0, none⟩ (.slice A9 xs.length c9)).setCell ⟨s + 2, 0, none⟩ (.int .i64 (frame_All_last a1 xs))).drew = W2 at f6 f7 fo fb hrow hK2 ⊢
    have c6 := f6.cell
    have c7 := f7.cell
    gi_wp2
    have hDs := (Array.getElem?_eq_some_iff.1 hK2).1
    have c6' : (W2.putObj D (.deferred none)).cell? ⟨s + 1, 0, none⟩ = some (.slice A9 xs.length c9) := (World.cell?_of_block (World.putObj_heap_other (by simp; omega))).trans c6
    have c7' : (W2.putObj D (.deferred none)).cell? ⟨s + 2, 0, none⟩ = some (.int .i64 (frame_All_last a1 xs)) := (World.cell?_of_block (World.putObj_heap_other (by simp; omega))).trans c7
    refine ⟨by simp, .inl ⟨_, _, rfl, run_takeDeferred hK2, ?_⟩⟩
    refine ⟨_, frame_All_res rfl rfl c6' c7', _, rfl, ?_, ?_⟩
    · refine Kd.R_lower (Kd.R_mono (Kd.R_move (Kd.R_bound hrow) (fun k_ hk => World.putObj_heap_other (fun e => ?_))) (fun _ hk => hk.1)) (by omega)
      obtain ⟨_, _, _, q_, _, cells_, hcl⟩ := hk
      rw [e, hK2] at hcl
      cases hcl
    · rw [hs]
      exact (hIn.below.trans fb).trans ⟨rfl, rfl, rfl, by simp, fun k_ hk => World.putObj_heap_other (by omega)⟩
def merkhetref06_All.l0 : Nat → ByteArray → Int → Int → List ByteArray → Option (List ByteArray × Int)
  | 0, _, _, _, _ => none
  | k + 1, x0, x1, x2, x8 => if (x8.length : Int) < x2 then ((merkhetref06_Get.f k x0 x1).bind fun bt155 => (if bt155.2.2 = 0 then (if x8.length < 8796093022208 then (merkhetref06_All.l0 k x0 bt155.2.1 x2 (x8 ++ [bt155.1])) else (none)) else (some (x8, x1)))) else (some (x8, x1))
def merkhetref06_All.f (k : Nat) (a0 : ByteArray) (a1 : Int) (a2 : Int) : Option (List ByteArray × Int) := merkhetref06_All.l0 k a0 a1 a2 (([] : List ByteArray))
theorem merkhetref06_All.mono_l : ∀ k, (∀ y0 y1 y2 y3, LeO (merkhetref06_All.l0 k y0 y1 y2 y3) (merkhetref06_All.l0 (k + 1) y0 y1 y2 y3))
  | 0 => fun _ _ _ _ r h => by simp [merkhetref06_All.l0] at h
  | k + 1 => by
    have ih0 := merkhetref06_All.mono_l k
    · intro y0 y1 y2 y3
      unfold merkhetref06_All.l0
      repeat' first
      | (with_reducible exact ih0 _ _ _ _)
      | (with_reducible exact merkhetref06_Get.mono _ _ _)
      | (with_reducible exact LeO.refl _)
      | (with_reducible exact LeO.none _)
      | (with_reducible refine LeO.ite ?_ ?_)
      | (with_reducible refine LeO.bind ?_ (fun _ => ?_))
      | exact ih0 _ _ _ _
      | exact merkhetref06_Get.mono _ _ _
      | exact LeO.none _
      | refine LeO.ite ?_ ?_
      | refine LeO.bind ?_ (fun _ => ?_)
theorem merkhetref06_All.mono : ∀ a0 a1 a2 k, LeO (merkhetref06_All.f k a0 a1 a2) (merkhetref06_All.f (k + 1) a0 a1 a2) := by
  intro a0 a1 a2 k
  have ih0 := merkhetref06_All.mono_l k
  unfold merkhetref06_All.f
  repeat' first
      | (with_reducible exact ih0 _ _ _ _)
      | (with_reducible exact merkhetref06_Get.mono _ _ _)
      | (with_reducible exact LeO.refl _)
      | (with_reducible exact LeO.none _)
      | (with_reducible refine LeO.ite ?_ ?_)
      | (with_reducible refine LeO.bind ?_ (fun _ => ?_))
      | exact ih0 _ _ _ _
      | exact merkhetref06_Get.mono _ _ _
      | exact LeO.none _
      | refine LeO.ite ?_ ?_
      | refine LeO.bind ?_ (fun _ => ?_)
set_option maxHeartbeats 8000000 in
set_option maxRecDepth 100000 in
theorem merkhetref06_All.calls (k : Nat) (a0 : ByteArray) (a1 : Int) (a2 : Int) (r1 : List ByteArray) (r2 : Int) (w : World) (h : merkhetref06_All.f k a0 a1 a2 = some (r1, r2)) :
    Calls Try.prog 25 #[.string a0, .int .i64 a1, .int .i64 a2] w fun e w' => ∃ v0_ : Value, e = .returned (.tuple #[v0_, .int .i64 r2]) ∧ Kd.R Kd.string 9 w' w.heap.size (fun _ => True) v0_ r1 ∧ Below w.heap.size w w' := by
  have HB := Aside0.mk (Below.refl w.heap.size w)
  have H : (merkhetref06_All.l0 k a0 a1 a2 (([] : List ByteArray))) = some (r1, r2) := h
  clear h
  obtain ⟨y152, hy152⟩ : ∃ y_ : List ByteArray, y_ = (([] : List ByteArray)) := ⟨_, rfl⟩
  replace H : (merkhetref06_All.l0 k a0 a1 a2 y152) = some (r1, r2) := by first | (rw [hy152]; with_reducible exact H) | (have H2_ := (Option.bind_some _ _).symm.trans H; rw [hy152]; with_reducible exact H2_) | (have H2_ := (Option.bind_some _ _).symm.trans H; with_reducible exact H2_) | with_reducible exact H | (rw [hy152]; exact H) | exact H
  have Ny152 := Aside0.mk hy152
  clear hy152
  have H' := Aside0.mk H
  clear H
  go_enter Try.func25, Try.ntmps25
  go_wp2_with (first | ((with_reducible refine gate_dst (N := 12) rfl ?_); refine Kd.R_lit Kd.string _ 9 ?hg (N := 12) ?hd (xs := ([] : List ByteArray)) (inner := []) (ok := fun _ => True) (okp := fun _ => True) ?hr ?hp (fun _ hk => hk) trivial (Below.refl _ _) (Nat.le_refl _) (by simp) ?_; (case hd => rfl); (case hg => rfl); (case hr => first | (go_simp; done) | (go_simp; rfl)); (case hp => exact (Reps.none _ _)); intro v153 w4 ho5 hb hg_ hnew_; clear hg_ hnew_; (first | rw [← Ny152.out] at ho5 | (simp only [Int.reduceToNat] at ho5; rw [← Ny152.out] at ho5)); have n0_ := Aside0.mk (Kd.R_lower ho5 (below_size (by repeat (first | (with_reducible first | exact HB.out | apply below_alloc | apply pw_below_drewN | apply below_drew1) | exact HB.out)))); have n1_ := Aside0.mk (below_step (by repeat (first | (with_reducible first | exact HB.out | apply below_alloc | apply pw_below_drewN | apply below_drew1) | exact HB.out)) hb); clear HB; have HO154 := n0_; have HB := n1_; clear n0_ n1_; clear hb ho5))
  go_loopg [1, 8] k (fun kq v1 v8 w' => ∃ (x1_1 : Int) (x8_1 : List ByteArray), v1 = .int .i64 x1_1 ∧ Aside0 (merkhetref06_All.l0 kq a0 x1_1 a2 x8_1 = some (r1, r2)) ∧ Aside0 (kq ≤ k) ∧ Aside0 (Kd.R Kd.string 9 w' w.heap.size (fun _ => True) v8 x8_1) ∧ Aside0 (Below w.heap.size w w'))
  case atStart => exact ⟨(a1), (y152), (by first | rfl | (simp; done) | (simp [*]; done)), H', ⟨Nat.le_refl _⟩, ⟨by (with_reducible repeat (first | apply Kd.R_alloc | apply Kd.R_drewN | apply Kd.R_drew)); exact HO154.out⟩, ⟨by repeat (first | (with_reducible first | exact HB.out | apply below_alloc | apply pw_below_drewN | apply below_drew1) | exact HB.out)⟩⟩
  case round =>
    clear H'
    try clear c2
    try clear p2
    obtain ⟨x1_1, x8_1, rfl, HA, HK1, HO_8, HB⟩ := hrel
    cases gk with
    | zero => exact absurd HA.out (by simp [merkhetref06_All.l0])
    | succ k1 =>
      have H := HA.out
      clear HA
      simp only [merkhetref06_All.l0] at H
      by_cases c6 : (x8_1.length : Int) < a2
      · rw [if_pos c6] at H
        have c6b0 : decide ((x8_1.length : Int) < a2) = true := decide_eq_true c6
        clear c6
        replace H := Option.bind_eq_some_iff.mp H
        obtain ⟨⟨t155, t156, t157⟩, A70, H⟩ := H
        replace H : (if t157 = 0 then (if x8_1.length < 8796093022208 then (merkhetref06_All.l0 k1 a0 t156 a2 (x8_1 ++ [t155])) else (none)) else (some (x8_1, x1_1))) = some (r1, r2) := H
        have A7 := Aside0.mk A70
        clear A70
        by_cases c8 : t157 = 0
        · rw [if_pos c8] at H
          have c8b0 : (t157 == 0) = true := beq_iff_eq.mpr c8
          have c8b1 : (t157 != 0) = false := bne_eq_false_iff_eq.mpr c8
          clear c8
          by_cases c9 : x8_1.length < 8796093022208
          · rw [if_pos c9] at H
            have LMc9 := Aside0.mk c9
            clear c9
            obtain ⟨y158, hy158⟩ : ∃ y_ : List ByteArray, y_ = (x8_1 ++ [t155]) := ⟨_, rfl⟩
            replace H : (merkhetref06_All.l0 k1 a0 t156 a2 y158) = some (r1, r2) := by first | (rw [hy158]; with_reducible exact H) | (have H2_ := (Option.bind_some _ _).symm.trans H; rw [hy158]; with_reducible exact H2_) | (have H2_ := (Option.bind_some _ _).symm.trans H; with_reducible exact H2_) | with_reducible exact H | (rw [hy158]; exact H) | exact H
            have Ny158 := Aside0.mk hy158
            clear hy158
            have H' := Aside0.mk H
            clear H
            obtain ⟨Ao10, co10, eo10⟩ := Kd.R_slice HO_8.out
            subst eo10
            go_wp2_with (first | ((with_reducible refine gate_callee (f := 23) rfl ?_); refine goesL_ (some 20) rfl rfl Try.func23 (by kernel_rfl) rfl #[.string a0, .int .i64 x1_1] rfl (by (try simp only [List.map_toArray, List.map_cons, List.map_nil]); first | done | rfl | (simp only [List.length_drop, List.length_take]; rfl)) ?_; (with_reducible refine (merkhetref06_Get.calls k1 a0 x1_1 t155 t156 t157 _ A7.out).mono ?_); rintro e w11 ⟨rfl, hb⟩; refine ⟨_, rfl, ?_⟩; have n0_ := Aside0.mk (Kd.R_below (by (with_reducible repeat (first | apply Kd.R_alloc | apply Kd.R_drewN | apply Kd.R_drew)); exact HO_8.out) hb); have n1_ := Aside0.mk (below_step (by repeat (first | (with_reducible first | exact HB.out | apply below_alloc | apply pw_below_drewN | apply below_drew1) | exact HB.out)) hb); clear HO_8; clear HB; have HO_8 := n0_; have HB := n1_; clear n0_ n1_; (try clear hb); (try clear hb2); (try clear hk); (try clear hi)) | ((with_reducible refine gate_builtin (b := .append) (xs := #[.tmp 28, .tmp 30]) rfl ?_); at_builtin; refine Kd.R_append Kd.string (w0 := w) w.heap.size rfl (.tmp 28) (.tmp 30) 45 9 (.string ⟨#[]⟩) 16 rfl Try.underlying45 info9 rfl (by decide) (by omega) (.slice Ao10 x8_1.length co10) x8_1 t155 [.string t155] (fun _ => True) (fun _ => False) rfl rfl ?aP (fun _ hk => hk.elim) ?aF ?aO ?aB ?aS ?aL ?_; (case aP => exact rfl); (case aB => exact (by repeat (first | (with_reducible first | exact HB.out | apply below_alloc | apply pw_below_drewN | apply below_drew1) | exact HB.out))); (case aF => exact (fun _ _ => trivial)); (case aO => exact (by (with_reducible repeat (first | apply Kd.R_alloc | apply Kd.R_drewN | apply Kd.R_drew)); exact HO_8.out)); (case aS => exact (below_size (by repeat (first | (with_reducible first | exact HB.out | apply below_alloc | apply pw_below_drewN | apply below_drew1) | exact HB.out)))); (case aL => have := LMc9.out; omega); intro v159 w12 ho hb hg hat; rw [← Ny158.out] at ho; have n0_ := Aside0.mk (hb); have n1_ := Aside0.mk (ho); clear HB; clear HO_8; have HB := n0_; have HO160 := n1_; clear n0_ n1_; clear ho hb hg hat))
            go_roundg k1
            case measure => have := HK1.out; omega
            case rel => exact ⟨(t156), (y158), (by first | rfl | (simp; done) | (simp [*]; done)), H', ⟨by have := HK1.out; omega⟩, ⟨by (with_reducible repeat (first | apply Kd.R_alloc | apply Kd.R_drewN | apply Kd.R_drew)); exact HO160.out⟩, ⟨by repeat (first | (with_reducible first | exact HB.out | apply below_alloc | apply pw_below_drewN | apply below_drew1) | exact HB.out)⟩⟩
          · rw [if_neg c9] at H
            exact absurd H (by simp)
        · rw [if_neg c8] at H
          have c8b0 : (t157 == 0) = false := beq_eq_false_iff_ne.mpr c8
          have c8b1 : (t157 != 0) = true := bne_iff_ne.mpr c8
          simp only [Option.some.injEq, Prod.mk.injEq] at H
          obtain ⟨rfl, rfl⟩ := H
          obtain ⟨Ao13, co13, eo13⟩ := Kd.R_slice HO_8.out
          subst eo13
          go_wp2_with (first | ((with_reducible refine gate_callee (f := 23) rfl ?_); refine goesL_ (some 20) rfl rfl Try.func23 (by kernel_rfl) rfl #[.string a0, .int .i64 x1_1] rfl (by (try simp only [List.map_toArray, List.map_cons, List.map_nil]); first | done | rfl | (simp only [List.length_drop, List.length_take]; rfl)) ?_; (with_reducible refine (merkhetref06_Get.calls k1 a0 x1_1 t155 t156 t157 _ A7.out).mono ?_); rintro e w14 ⟨rfl, hb⟩; refine ⟨_, rfl, ?_⟩; have n0_ := Aside0.mk (Kd.R_below (by (with_reducible repeat (first | apply Kd.R_alloc | apply Kd.R_drewN | apply Kd.R_drew)); exact HO_8.out) hb); have n1_ := Aside0.mk (below_step (by repeat (first | (with_reducible first | exact HB.out | apply below_alloc | apply pw_below_drewN | apply below_drew1) | exact HB.out)) hb); clear HO_8; clear HB; have HO_8 := n0_; have HB := n1_; clear n0_ n1_; (try clear hb); (try clear hb2); (try clear hk); (try clear hi)))
          go_ret2
          exact ⟨_, by first | rfl | (simp [errW_none, errW_some] <;> rfl) | (simp [*, errW_none, errW_some] <;> rfl), by (with_reducible repeat (first | apply Kd.R_alloc | apply Kd.R_drewN | apply Kd.R_drew)); exact HO_8.out, by repeat (first | (with_reducible first | exact HB.out | apply below_alloc | apply pw_below_drewN | apply below_drew1) | exact HB.out)⟩
      · rw [if_neg c6] at H
        have c6b0 : decide ((x8_1.length : Int) < a2) = false := decide_eq_false c6
        clear c6
        simp only [Option.some.injEq, Prod.mk.injEq] at H
        obtain ⟨rfl, rfl⟩ := H
        obtain ⟨Ao15, co15, eo15⟩ := Kd.R_slice HO_8.out
        subst eo15
        go_wp2
        go_ret2
        exact ⟨_, by first | rfl | (simp [errW_none, errW_some] <;> rfl) | (simp [*, errW_none, errW_some] <;> rfl), by (with_reducible repeat (first | apply Kd.R_alloc | apply Kd.R_drewN | apply Kd.R_drew)); exact HO_8.out, by repeat (first | (with_reducible first | exact HB.out | apply below_alloc | apply pw_below_drewN | apply below_drew1) | exact HB.out)⟩
def merkhetlaw06_Same.l0 : Nat → List (List Int) → List ByteArray → Int → Int → Option (Bool)
  | 0, _, _, _, _ => none
  | k + 1, x0, x1, x12, x13 => if x13 < x12 then (if 0 ≤ x13 then (if x13 < (x0.length : Int) then (if x13 < (x1.length : Int) then (if (strOfNums (rd_L1 x0 x13)).toList = (rdOf ByteArray.empty x1 x13).toList then (merkhetlaw06_Same.l0 k x0 x1 x12 (wrap64 (x13 + 1))) else (some false)) else (none)) else (none)) else (none)) else (some true)
def merkhetlaw06_Same.f (k : Nat) (l0 : List (List Int)) (l1 : List ByteArray) : Option (Bool) := if (l0.length : Int) = (l1.length : Int) then (merkhetlaw06_Same.l0 k l0 l1 (l0.length : Int) 0) else (some false)
theorem merkhetlaw06_Same.mono_l : ∀ k, (∀ y0 y1 y2 y3, LeO (merkhetlaw06_Same.l0 k y0 y1 y2 y3) (merkhetlaw06_Same.l0 (k + 1) y0 y1 y2 y3))
  | 0 => fun _ _ _ _ r h => by simp [merkhetlaw06_Same.l0] at h
  | k + 1 => by
    have ih0 := merkhetlaw06_Same.mono_l k
    · intro y0 y1 y2 y3
      unfold merkhetlaw06_Same.l0
      repeat' first
      | (with_reducible exact ih0 _ _ _ _)
      | (with_reducible exact LeO.refl _)
      | (with_reducible exact LeO.none _)
      | (with_reducible refine LeO.ite ?_ ?_)
      | (with_reducible refine LeO.bind ?_ (fun _ => ?_))
      | exact ih0 _ _ _ _
      | exact LeO.none _
      | refine LeO.ite ?_ ?_
      | refine LeO.bind ?_ (fun _ => ?_)
theorem merkhetlaw06_Same.mono : ∀ a0 a1 k, LeO (merkhetlaw06_Same.f k a0 a1) (merkhetlaw06_Same.f (k + 1) a0 a1) := by
  intro a0 a1 k
  have ih0 := merkhetlaw06_Same.mono_l k
  unfold merkhetlaw06_Same.f
  repeat' first
      | (with_reducible exact ih0 _ _ _ _)
      | (with_reducible exact LeO.refl _)
      | (with_reducible exact LeO.none _)
      | (with_reducible refine LeO.ite ?_ ?_)
      | (with_reducible refine LeO.bind ?_ (fun _ => ?_))
      | exact ih0 _ _ _ _
      | exact LeO.none _
      | refine LeO.ite ?_ ?_
      | refine LeO.bind ?_ (fun _ => ?_)
set_option maxHeartbeats 8000000 in
set_option maxRecDepth 100000 in
theorem merkhetlaw06_Same.calls (k : Nat) (A0 : Option Addr) (c0 : Nat) (l0 : List (List Int)) (A1 : Option Addr) (c1 : Nat) (l1 : List ByteArray) (r : Bool) (w : World) (hr0 : Kd.C (Kd.slice 5 (Kd.int .u8)) w A0 l0.length l0) (hc0 : l0.length ≤ c0) (hr1 : Kd.C Kd.string w A1 l1.length l1) (hc1 : l1.length ≤ c1) (h : merkhetlaw06_Same.f k l0 l1 = some r) :
    Calls Try.prog 26 #[.slice A0 l0.length c0, .slice A1 l1.length c1] w fun e w' => e = .returned (.bool r) ∧ Drawn0 w w' := by
  have HR0 := Aside0.mk hr0
  have HC0 := Aside0.mk hc0
  clear hr0 hc0
  have HR1 := Aside0.mk hr1
  have HC1 := Aside0.mk hc1
  clear hr1 hc1
  have H : (if (l0.length : Int) = (l1.length : Int) then (merkhetlaw06_Same.l0 k l0 l1 (l0.length : Int) 0) else (some false)) = some r := h
  clear h
  by_cases c3 : (l0.length : Int) = (l1.length : Int)
  · rw [if_pos c3] at H
    have c3b0 : ((l0.length : Int) == (l1.length : Int)) = true := beq_iff_eq.mpr c3
    have c3b1 : ((l0.length : Int) != (l1.length : Int)) = false := bne_eq_false_iff_eq.mpr c3
    have c3b2 : (l0.length == l1.length) = true := by first | simpa using c3 | (simp at c3 ⊢; omega)
    clear c3
    have H' := Aside0.mk H
    clear H
    go_enter Try.func26, Try.ntmps26
    go_wp2
    repeat (go_quiet (fail); try go_wp2)
    go_loopg [13] k (fun kq v13 w' => ∃ (x13_1 : Int), v13 = .int .i64 x13_1 ∧ Aside0 (merkhetlaw06_Same.l0 kq l0 l1 (l0.length : Int) x13_1 = some r) ∧ Aside0 (kq ≤ k) ∧ Drawn0 w w')
    case atStart => exact ⟨(0), (by first | rfl | (simp; done) | (simp [*]; done)), H', ⟨Nat.le_refl _⟩, by repeat (first | exact Drawn0.refl _ | apply Drawn0.step)⟩
    case round =>
      clear H'
      try clear c1
      try clear c2
      try clear p2
      try clear c3
      try clear c3b0
      try clear c3b1
      try clear c3b2
      obtain ⟨x13_1, rfl, HA, HK1, ⟨m1, rfl⟩⟩ := hrel
      cases gk with
      | zero => exact absurd HA.out (by simp [merkhetlaw06_Same.l0])
      | succ k1 =>
        have H := HA.out
        clear HA
        simp only [merkhetlaw06_Same.l0] at H
        by_cases c4 : x13_1 < (l0.length : Int)
        · rw [if_pos c4] at H
          have c4b0 : decide (x13_1 < (l0.length : Int)) = true := decide_eq_true c4
          clear c4
          by_cases c5 : 0 ≤ x13_1
          · rw [if_pos c5] at H
            have c5b0 : decide (0 ≤ x13_1) = true := decide_eq_true c5
            clear c5
            by_cases c6 : x13_1 < (l0.length : Int)
            · rw [if_pos c6] at H
              have c6b0 : decide (x13_1 < (l0.length : Int)) = true := decide_eq_true c6
              clear c6
              by_cases c7 : x13_1 < (l1.length : Int)
              · rw [if_pos c7] at H
                have c7b0 : decide (x13_1 < (l1.length : Int)) = true := decide_eq_true c7
                clear c7
                by_cases c8 : (strOfNums (rd_L1 l0 x13_1)).toList = (rdOf ByteArray.empty l1 x13_1).toList
                · rw [if_pos c8] at H
                  have c8b0 : ((strOfNums (rd_L1 l0 x13_1)).toList == (rdOf ByteArray.empty l1 x13_1).toList) = true := beq_iff_eq.mpr c8
                  have c8b1 : ((strOfNums (rd_L1 l0 x13_1)).toList != (rdOf ByteArray.empty l1 x13_1).toList) = false := bne_eq_false_iff_eq.mpr c8
                  clear c8
                  have H' := Aside0.mk H
                  clear H
                  have p161 : 0 ≤ (x13_1 : Int) := of_decide_eq_true (by first | (with_reducible assumption) | assumption)
                  have q161 : x13_1 < (l0.length : Int) := of_decide_eq_true (by first | (with_reducible assumption) | assumption)
                  obtain ⟨ad161, A161_0, c161_0, e161, hx161_0, hl161_0, hi161_0⟩ := at_L1 HR0.out x13_1 p161 q161
                  cases e161
                  have HR161_0 := Aside0.mk hi161_0
                  have HC161_0 := Aside0.mk hl161_0
                  clear hi161_0 hl161_0
                  replace p161 := eq_true p161
                  replace q161 := eq_true q161
                  have hcv9 := Kd.C_string (P := Try.prog) (A := A161_0) (c := c161_0) Try.underlying25 Try.underlying5 Try.underlying9 HR161_0.out
                  have hcw9 := fun n_ : Nat => Kd.C_string (P := Try.prog) (A := A161_0) (c := c161_0) Try.underlying25 Try.underlying5 Try.underlying9 (Kd.C_drewN HR161_0.out n_)
                  have p162 : 0 ≤ (x13_1 : Int) := of_decide_eq_true (by first | (with_reducible assumption) | assumption)
                  have q162 : x13_1 < (l1.length : Int) := of_decide_eq_true (by first | (with_reducible assumption) | assumption)
                  obtain ⟨ad162, e162, hx162_0⟩ := Kd.at_string HR1.out x13_1 p162 q162
                  cases e162
                  replace p162 := eq_true p162
                  replace q162 := eq_true q162
                  go_wp2
                  repeat (go_quiet (fail); try go_wp2)
                  go_roundg k1
                  case measure => have := HK1.out; omega
                  case rel => exact ⟨(wrap64 (x13_1 + 1)), (by first | rfl | (simp; done) | (simp [*]; done)), H', ⟨by have := HK1.out; omega⟩, by repeat (first | exact Drawn0.refl _ | apply Drawn0.step)⟩
                · rw [if_neg c8] at H
                  have c8b0 : ((strOfNums (rd_L1 l0 x13_1)).toList == (rdOf ByteArray.empty l1 x13_1).toList) = false := beq_eq_false_iff_ne.mpr c8
                  have c8b1 : ((strOfNums (rd_L1 l0 x13_1)).toList != (rdOf ByteArray.empty l1 x13_1).toList) = true := bne_iff_ne.mpr c8
                  obtain rfl := Option.some.inj H
                  have p161 : 0 ≤ (x13_1 : Int) := of_decide_eq_true (by first | (with_reducible assumption) | assumption)
                  have q161 : x13_1 < (l0.length : Int) := of_decide_eq_true (by first | (with_reducible assumption) | assumption)
                  obtain ⟨ad161, A161_0, c161_0, e161, hx161_0, hl161_0, hi161_0⟩ := at_L1 HR0.out x13_1 p161 q161
                  cases e161
                  have HR161_0 := Aside0.mk hi161_0
                  have HC161_0 := Aside0.mk hl161_0
                  clear hi161_0 hl161_0
                  replace p161 := eq_true p161
                  replace q161 := eq_true q161
                  have hcv10 := Kd.C_string (P := Try.prog) (A := A161_0) (c := c161_0) Try.underlying25 Try.underlying5 Try.underlying9 HR161_0.out
                  have hcw10 := fun n_ : Nat => Kd.C_string (P := Try.prog) (A := A161_0) (c := c161_0) Try.underlying25 Try.underlying5 Try.underlying9 (Kd.C_drewN HR161_0.out n_)
                  have p162 : 0 ≤ (x13_1 : Int) := of_decide_eq_true (by first | (with_reducible assumption) | assumption)
                  have q162 : x13_1 < (l1.length : Int) := of_decide_eq_true (by first | (with_reducible assumption) | assumption)
                  obtain ⟨ad162, e162, hx162_0⟩ := Kd.at_string HR1.out x13_1 p162 q162
                  cases e162
                  replace p162 := eq_true p162
                  replace q162 := eq_true q162
                  go_wp2
                  repeat (go_quiet (fail); try go_wp2)
                  go_ret
                  exact ⟨by first | rfl | (simp; done) | (simp [*]; done), by repeat (first | exact Drawn0.refl _ | apply Drawn0.step)⟩
              · rw [if_neg c7] at H
                exact absurd H (by simp)
            · rw [if_neg c6] at H
              exact absurd H (by simp)
          · rw [if_neg c5] at H
            exact absurd H (by simp)
        · rw [if_neg c4] at H
          have c4b0 : decide (x13_1 < (l0.length : Int)) = false := decide_eq_false c4
          clear c4
          obtain rfl := Option.some.inj H
          go_wp2
          repeat (go_quiet (fail); try go_wp2)
          go_ret
          exact ⟨by first | rfl | (simp; done) | (simp [*]; done), by repeat (first | exact Drawn0.refl _ | apply Drawn0.step)⟩
  · rw [if_neg c3] at H
    have c3b0 : ((l0.length : Int) == (l1.length : Int)) = false := beq_eq_false_iff_ne.mpr c3
    have c3b1 : ((l0.length : Int) != (l1.length : Int)) = true := bne_iff_ne.mpr c3
    have c3b2 : (l0.length == l1.length) = false := by first | simpa using c3 | (simp at c3 ⊢; omega)
    obtain rfl := Option.some.inj H
    go_enter Try.func26, Try.ntmps26
    go_wp2
    repeat (go_quiet (fail); try go_wp2)
    go_ret
    exact ⟨by first | rfl | (simp; done) | (simp [*]; done), by repeat (first | exact Drawn0.refl _ | apply Drawn0.step)⟩
end Go.Proofs.Ytdpodjgggicaoaa.FG
