-- WRITTEN FOR THIS CLAIM by wip/tools/mp.py, a program of this project that drives the kit's print; the functions that the print does not take are this project's own texts.
import Derived.Test.YtcgjplolehhpjaaKx0
import Derived.Test.YtcgjplolehhpjaaKx1
namespace Go.Proofs.Ytcgjplolehhpjaa.K
open Go.RowKit Go.Proofs.YtcgjplolehhpjaaW.PrintWords Go.Proofs.YtcgjplolehhpjaaW.PrintLast Go.Proofs.YtcgjplolehhpjaaW.PrintMore
attribute [local go_sem] max2_int min2_int max_two min_two max_three min_three max_four min_four   -- for this text's walks alone
set_option linter.unusedVariables false
set_option linter.unusedSimpArgs false

/-! ### forest_Row: function 21 -/
def forest_Row_it (x : Go.Proofs.Ytcgjplolehhpjaa.H.It3) : S34 := ⟨x.1, x.2.1, x.2.2⟩
def forest_Row.f (k : Nat) (l0 : List Int) : Option (List S34) :=
  (parent_Right.f k l0).bind fun r => if r = true then (if l0.length ≤ 1000000 ∧ Go.Proofs.Ytcgjplolehhpjaa.H.okB l0 = true then (Go.Proofs.Ytcgjplolehhpjaa.H.rowK l0 k (-1) 0).bind fun its => if its.length ≤ 1000000 then some (its.map forest_Row_it) else none else none) else some []
theorem forest_Row.mono : ∀ a0 k, LeO (forest_Row.f k a0) (forest_Row.f (k + 1) a0) := by
  intro a0 k
  exact LeO.bind (parent_Right.mono _ _) (fun _ => LeO.ite (LeO.ite (LeO.bind (Go.Proofs.Ytcgjplolehhpjaa.H.rowK_mono _ _ _ _) (fun _ => LeO.refl _)) (LeO.refl _)) (LeO.refl _))
theorem forest_Row_law : Go.Maps.Keyed Try.prog 3 := Go.Maps.int_keyed Try.underlying3
theorem forest_Row_zero (w : World) : (zeroValue 25).run Try.prog w = .ok (.slice none 0 0) w := by kernel_rfl
structure forest_Row_St (W0 : World) (B3 : Nat) (v : Value) (out : List S34) (W : World) : Prop where
  below : Below W0.heap.size W0 W
  b6 : W.heap[W0.heap.size]? = some (.cells #[v] 29 (0, 0))
  b7 : W.heap[W0.heap.size + 1]? = some (.cells #[.func (.func 41) #[] #[.pointer (some ⟨B3, 0, none⟩), .pointer (some ⟨W0.heap.size, 0, none⟩), .pointer (some ⟨W0.heap.size + 1, 0, none⟩)]] 56 (0, 0))
  row : Kd.R k34 34 W (W0.heap.size + 2) (fun _ => True) v out
set_option maxHeartbeats 8000000 in
set_option maxRecDepth 100000 in
theorem forest_Row_below (W0 : World) (B3 b : Nat) (p : List Int) (hp : Go.Proofs.Ytcgjplolehhpjaa.H.okP p) (hpl : p.length ≤ 1000000) (h3 : W0.heap[B3]? = some (.cells #[.map (some b)] 55 (0, 0)))
    (hL : ∀ (a : Int), -1 ≤ a → a < (p.length : Int) → ∀ W, Below W0.heap.size W0 W → ∃ A c, (Go.Proofs.Ytcgjplolehhpjaa.H.kidsI p p.length a).length ≤ c ∧ (Instr.lookup 55 (.map (some b)) (.int .i64 a) false).run Try.prog W = .ok (.slice A (Go.Proofs.Ytcgjplolehhpjaa.H.kidsI p p.length a).length c) W ∧ Kd.C (Kd.int .i64) W0 A (Go.Proofs.Ytcgjplolehhpjaa.H.kidsI p p.length a).length (Go.Proofs.Ytcgjplolehhpjaa.H.kidsI p p.length a)) :
    ∀ (k : Nat) (a : Int) (d : Nat) (its : List Go.Proofs.Ytcgjplolehhpjaa.H.It3) (v : Value) (out : List S34) (W : World), -1 ≤ a → a < (p.length : Int) → Go.Proofs.Ytcgjplolehhpjaa.H.rowK p k a d = some its → out.length + its.length ≤ 1000000 → forest_Row_St W0 B3 v out W →
    Calls Try.prog 41 #[.int .i64 a, .int .i64 d, .pointer (some ⟨B3, 0, none⟩), .pointer (some ⟨W0.heap.size, 0, none⟩), .pointer (some ⟨W0.heap.size + 1, 0, none⟩)] W fun e w' => e = .returned (.tuple #[]) ∧ ∃ v', forest_Row_St W0 B3 v' (out ++ its.map forest_Row_it) w' := by
  intro k
  induction k with
  | zero => intro a d its v out W ha0 ha1 h; simp [Go.Proofs.Ytcgjplolehhpjaa.H.rowK] at h
  | succ k ih =>
    intro a d its v out W ha0 ha1 h hn hs
    by_cases hd : d ≤ 1000000
    case neg => rw [Go.Proofs.Ytcgjplolehhpjaa.H.rowK, if_neg hd] at h; cases h
    rw [Go.Proofs.Ytcgjplolehhpjaa.H.rowK, if_pos hd] at h
    obtain ⟨A, c, hc, hrun, hC⟩ := hL a ha0 ha1 W hs.below
    have hkid := Go.Proofs.Ytcgjplolehhpjaa.H.kidsI_all p a
    have hkl : (Go.Proofs.Ytcgjplolehhpjaa.H.kidsI p p.length a).length = (Go.Proofs.Ytcgjplolehhpjaa.H.kidsN p a).length := by rw [hkid, List.length_map]
    have hkb : (Go.Proofs.Ytcgjplolehhpjaa.H.kidsN p a).length ≤ 1000000 := by rw [← hkl]; exact Nat.le_trans (Go.Proofs.Ytcgjplolehhpjaa.H.kidsI_length_le p _ a) hpl
    rw [hkl] at hc hrun hC
    have HC := Aside0.mk hC
    have HRUN := Aside0.mk hrun
    have HS := Aside0.mk hs
    have HH := Aside0.mk h
    have HN := Aside0.mk hn
    have HIH := Aside0.mk ih
    have HKID := Aside0.mk hkid
    have hb3 : W.cell? ⟨B3, 0, none⟩ = some (.map (some b)) := (blk_cell (blk_below h3 hs.below) 0).trans rfl
    have HP := Aside0.mk hp
    have H3 := Aside0.mk h3
    have HLK := Aside0.mk hL
    clear hC hrun hs h hn ih hkid hp h3 hL hkl ha0 ha1
    go_enter Try.func41, Try.ntmps41
    go_wp2_with (at_lookup; refine Go.Proofs.Ytcgjplolehhpjaa.H.wpList_lookup_run _ rfl _ _ 55 rfl rfl rfl HRUN.out ?_)
    clear hb3
    go_loopg [13] (Go.Proofs.Ytcgjplolehhpjaa.H.kidsN p a).length (fun g v13 wr => ∃ (i : Nat) (rest : List Go.Proofs.Ytcgjplolehhpjaa.H.It3) (v : Value) (o : List S34), i + g = (Go.Proofs.Ytcgjplolehhpjaa.H.kidsN p a).length ∧ v13 = .int .i64 i ∧ Aside0 (Go.Proofs.Ytcgjplolehhpjaa.H.rowsK (Go.Proofs.Ytcgjplolehhpjaa.H.rowK p k) a d ((Go.Proofs.Ytcgjplolehhpjaa.H.kidsN p a).drop i) = some rest) ∧ Aside0 (o ++ rest.map forest_Row_it = out ++ its.map forest_Row_it) ∧ Aside0 (forest_Row_St W0 B3 v o wr) )
    case atStart => exact ⟨0, its, v, out, by omega, rfl, HH, ⟨rfl⟩, HS⟩
    case round =>
      clear HS HH
      obtain ⟨i, rest, v, o, hi, rfl, HG, HO, HS⟩ := hrel
      by_cases hlt : i < (Go.Proofs.Ytcgjplolehhpjaa.H.kidsN p a).length
      · have hltz : (i : Int) < ((Go.Proofs.Ytcgjplolehhpjaa.H.kidsN p a).length : Int) := by omega
        have hg := HG.out
        rw [List.drop_eq_getElem_cons hlt] at hg
        have hmem : (Go.Proofs.Ytcgjplolehhpjaa.H.kidsN p a)[i] ∈ Go.Proofs.Ytcgjplolehhpjaa.H.kidsN p a := List.getElem_mem hlt
        generalize hx : (Go.Proofs.Ytcgjplolehhpjaa.H.kidsN p a)[i] = x at hg hmem
        obtain ⟨X, hX, hg⟩ := Option.bind_eq_some_iff.1 hg
        obtain ⟨Y, hY, hg⟩ := Option.bind_eq_some_iff.1 hg
        obtain rfl := Option.some.inj hg
        have hx1 := (Go.Proofs.Ytcgjplolehhpjaa.H.kidsN_mem.1 hmem).1
        have hC2 := Kd.C_below HC.out HS.out.below
        have hkr : rd (Go.Proofs.Ytcgjplolehhpjaa.H.kidsI p p.length a) (i : Int) = (x : Int) := by
          unfold rd
          rw [HKID.out, Int.toNat_natCast, List.getD_eq_getElem?_getD, List.getElem?_map, List.getElem?_eq_getElem hlt, hx]; rfl
        obtain ⟨ad, e, hc1⟩ := Kd.at_int hC2 (i : Int) (by omega) hltz
        cases e
        rw [hkr, Int.toNat_natCast] at hc1
        obtain ⟨A6, c6, rfl⟩ := Kd.R_slice HS.out.row
        have c6b : wr.cell? ⟨W0.heap.size, 0, none⟩ = some (.slice A6 o.length c6) := (blk_cell HS.out.b6 0).trans rfl
        have f6b := blk_frozen HS.out.b6 0
        have c7b : wr.cell? ⟨W0.heap.size + 1, 0, none⟩ = some (.func (.func 41) #[] #[.pointer (some ⟨B3, 0, none⟩), .pointer (some ⟨W0.heap.size, 0, none⟩), .pointer (some ⟨W0.heap.size + 1, 0, none⟩)]) := (blk_cell HS.out.b7 0).trans rfl
        have HLEN := Aside0.mk (show o.length + (X.length + Y.length + 1) ≤ 1000000 by
          have h1 := congrArg List.length HO.out
          simp only [List.length_append, List.length_map, List.length_cons] at h1
          have h2 := HN.out
          omega)
        have HX := Aside0.mk hX
        have HY := Aside0.mk hY
        have HX1 := Aside0.mk hx1
        have HLT := Aside0.mk (show W0.heap.size + 2 ≤ wr.heap.size from blk_lt HS.out.b7)
        have HBASE := Aside0.mk (fun (q : Nat) (e : some q = Value.ownBlock (.slice A6 o.length c6)) => Kd.R_base HS.out.row q e.symm)
        clear hkr hx hmem hX hY hg HG hC2 hx1
        go_wp2_with (first | (at_builtin; refine Kd.R_append k34 (w0 := wr) (W := wr) (W0.heap.size + 2) rfl _ _ 29 34 (.agg #[(.int .i64 0), (.int .i64 0), (.int .i64 0)]) 24 rfl Try.underlying29 info34 rfl (by decide) (by decide) (.slice A6 o.length c6) o ⟨(x : Int), (d : Int), a⟩ [.int .i64 (x : Int), .int .i64 (d : Int), .int .i64 a] (fun _ => True) (fun _ => False) rfl rfl (k34_mkM _ _ _ ⟨(x : Int), (d : Int), a⟩) (fun q hq => hq.elim) (fun q hq => trivial) HS.out.row (Below.refl _ _) HLT.out (by have := HLEN.out; omega) ?_; intro v1 w1 hr1 hb1 hg1 hat1; obtain ⟨A1n, c1n, rfl⟩ := Kd.R_slice hr1; have b61 := Aside0.mk (blk_grown HS.out.b6 hg1 (fun e => by have := HBASE.out _ e; omega)); have b71 := Aside0.mk (blk_grown HS.out.b7 hg1 (fun e => by have := HBASE.out _ e; omega)); have c61 : w1.cell? ⟨W0.heap.size, 0, none⟩ = some (.slice A6 o.length c6) := (blk_cell b61.out 0).trans rfl; have f61 := blk_frozen b61.out 0; have c71 : w1.cell? ⟨W0.heap.size + 1, 0, none⟩ = some (.func (.func 41) #[] #[.pointer (some ⟨B3, 0, none⟩), .pointer (some ⟨W0.heap.size, 0, none⟩), .pointer (some ⟨W0.heap.size + 1, 0, none⟩)]) := (blk_cell b71.out 0).trans rfl))
        have HBW1 := Aside0.mk (pw_below_grown (B := W0.heap.size) HS.out.below _ HS.out.below.size hg1 (fun q e => by have := HBASE.out q e.symm; omega))
        have HST := Aside0.mk (show forest_Row_St W0 B3 (.slice A1n (o.length + 1) c1n) (o ++ [⟨(x : Int), (d : Int), a⟩]) (w1.setCell ⟨W0.heap.size, 0, none⟩ (.slice A1n (o.length + 1) c1n)) from ⟨HBW1.out.setCell (p := ⟨W0.heap.size, 0, none⟩) (Nat.le_refl _) _, blk_set b61.out 0 _, blk_far b71.out (show W0.heap.size + 1 ≠ W0.heap.size by omega) _, by
          have h1 := Kd.R_mono (Kd.R_far (p := ⟨W0.heap.size, 0, none⟩) (Kd.R_bound hr1) (fun q hq e => by have h1 : W0.heap.size + 2 ≤ q := hq.2.1; have h2 : q = W0.heap.size := e; omega) (.slice A1n (o.length + 1) c1n)) (fun _ _ => trivial)
          rw [List.length_append, List.length_singleton] at h1
          exact h1⟩)
        have hcall := HIH.out (x : Int) (d + 1) X _ _ _ (by omega) (by have := HX1.out; omega) HX.out (by rw [List.length_append, List.length_singleton]; have := HLEN.out; omega) HST.out
        rw [show ((d + 1 : Nat) : Int) = (d : Int) + 1 from by omega] at hcall
        refine hcall.mono ?_
        rintro e w2 ⟨rfl, v2, hs2⟩
        have HS2 := Aside0.mk hs2
        clear hs2 hcall
        go_wp2_with (fail)
        go_roundg (gk - 1)
        case measure => omega
        case rel => exact ⟨i + 1, Y, v2, _, by omega, by go_num, HY, ⟨by have h1 := HO.out; rw [← h1, List.map_cons, List.map_append]; simp [forest_Row_it]⟩, HS2⟩
      · have hltz : ¬ (i : Int) < ((Go.Proofs.Ytcgjplolehhpjaa.H.kidsN p a).length : Int) := by omega
        have hg := HG.out
        rw [List.drop_of_length_le (by omega)] at hg
        obtain rfl := Option.some.inj (show some [] = some rest from hg)
        have ho := HO.out
        rw [List.map_nil, List.append_nil] at ho
        go_wp2_with (fail)
        go_end0
        exact ⟨rfl, v, ho ▸ HS.out⟩
set_option maxHeartbeats 8000000 in
set_option maxRecDepth 100000 in
theorem forest_Row.calls (k : Nat) (A0 : Option Addr) (c0 : Nat) (l0 : List Int) (r : List S34) (w : World) (hr0 : Kd.C (Kd.int .i64) w A0 l0.length l0) (hc0 : l0.length ≤ c0) (h : forest_Row.f k l0 = some r) :
    Calls Try.prog 21 #[.slice A0 l0.length c0] w fun e w' => ∃ v0_ : Value, e = .returned (v0_) ∧ Kd.R k34 34 w' w.heap.size (fun _ => True) v0_ r ∧ Below w.heap.size w w' := by
  have hmm := @run_makeMap Try.prog
  have hmf : ∀ (fn : Fn) (first cap : Array Value) (w : World), (Instr.makeFunc fn first cap).run Try.prog w = .ok (.func fn first cap) w := fun _ _ _ _ => rfl
  obtain ⟨q, hq, h'⟩ := Option.bind_eq_some_iff.mp h
  clear h
  have h := h'
  clear h'
  have HR0 := Aside0.mk hr0
  have HC0 := Aside0.mk hc0
  have HQ := Aside0.mk hq
  clear hr0 hc0 hq
  cases q with
  | false =>
    obtain rfl := Option.some.inj (show some [] = some r from h)
    clear h
    go_enter Try.func21, Try.ntmps21
    go_wp2_with (fail)
    refine (parent_Right.calls k A0 c0 l0 false _ HR0.out HC0.out HQ.out).mono ?_
    rintro e w1 ⟨rfl, hb1⟩
    have HB1 := Aside0.mk hb1
    clear hb1
    go_wp2_with (fail)
    go_ret
    exact ⟨_, rfl, Kd.R_nil _ _ _ _ _, HB1.out⟩
  | true =>
  rw [if_pos rfl] at h
  by_cases cn : l0.length ≤ 1000000 ∧ Go.Proofs.Ytcgjplolehhpjaa.H.okB l0 = true
  case neg => rw [if_neg cn] at h; cases h
  rw [if_pos cn] at h
  obtain ⟨its, hits, h⟩ := Option.bind_eq_some_iff.mp h
  by_cases cl : its.length ≤ 1000000
  case neg => rw [if_neg cl] at h; cases h
  rw [if_pos cl] at h
  obtain rfl := Option.some.inj h
  obtain ⟨hn, hok⟩ := cn
  have hp := Go.Proofs.Ytcgjplolehhpjaa.H.okB_iff.1 hok
  have HI := Aside0.mk hits
  have HP := Aside0.mk hp
  have HCL := Aside0.mk cl
  clear h hits hp hok cl
  obtain ⟨i0_, hi0, hz0, hz1, hz2⟩ := info_parts info3
  go_enter Try.func21, Try.ntmps21
  go_wp2_with (fail)
  refine (parent_Right.calls k A0 c0 l0 true _ HR0.out HC0.out HQ.out).mono ?_
  rintro e w1 ⟨rfl, hb1⟩
  have HB1 := Aside0.mk hb1
  clear hb1
  have HGZ := Aside0.mk (show (w1.alloc (.map #[] 0)).ownsGroups (H := Unit) Try.prog 3 (w1.heap.size + 1) 3 .i64 w1.heap.size 0 (.map []) from World.ownsGroups_made w1 Try.prog 3 3 .i64)
  have HGA := Aside0.mk (HGZ.out.kept (World.grownBy_alloc _ (.cells #[.map (some w1.heap.size)] 55 (0, 0)) none) (by simp) (fun es clock _ x _ => by cases x.val.ownBlock <;> simp))
  have HBA := Aside0.mk (below_alloc (below_alloc HB1.out (.map #[] 0)) (.cells #[.map (some w1.heap.size)] 55 (0, 0)))
  have HKA := Aside0.mk (show ((w1.alloc (.map #[] 0)).alloc (.cells #[.map (some w1.heap.size)] 55 (0, 0))).heap[w1.heap.size + 1]? = some (.cells #[.map (some w1.heap.size)] 55 (0, 0)) by
    have h_ := blk_new (w1.alloc (.map #[] 0)) (.cells #[.map (some w1.heap.size)] 55 (0, 0))
    rw [World.size_alloc] at h_
    exact h_)
  have HSZ := Aside0.mk HB1.out.size
  clear HGZ
  go_wp2_with (fail)
  generalize hb : w1.heap.size = b at HGA HBA HKA HSZ ⊢
  go_loopg [14] l0.length (fun d v14 wr => ∃ (i : Nat) (D : DataW Unit), i + d = l0.length ∧ v14 = .int .i64 i ∧ Aside0 (Below w.heap.size w wr) ∧ Aside0 (Go.Proofs.Ytcgjplolehhpjaa.H.GMap l0 i D) ∧ Aside0 (wr.ownsGroups Try.prog 3 (b + 1) 3 .i64 b i D) ∧ Aside0 (wr.heap[b + 1]? = some (.cells #[.map (some b)] 55 (0, 0))) ∧ Aside0 (b + 2 ≤ wr.heap.size))
  case atStart => exact ⟨0, .map [], by omega, rfl, HBA, ⟨Go.Proofs.Ytcgjplolehhpjaa.H.GMap_nil l0⟩, HGA, HKA, ⟨by rw [World.size_alloc, World.size_alloc, hb]; omega⟩⟩
  case round =>
    clear HGA HBA HKA hb
    obtain ⟨i, D, hi, rfl, HB, HD, HG, HK, HZ⟩ := hrel
    by_cases hlt : i < l0.length
    · have hltz : (i : Int) < (l0.length : Int) := by omega
      obtain ⟨ad, e, hx⟩ := Kd.at_int HR0.out (i : Int) (by omega) hltz
      cases e
      have hv : rd l0 (i : Int) = l0.getD i 0 := by unfold rd; rw [Int.toNat_natCast]
      rw [hv, Int.toNat_natCast] at hx
      have hxr := (HB.out.cell (World.block_lt_of_cell? w _ hx)).trans hx
      have hpx := HP.out (l0.getD i 0) (by rw [List.getD_eq_getElem?_getD, List.getElem?_eq_getElem hlt]; exact List.getElem_mem hlt)
      have hw : (Lit.int .i64 (l0.getD i 0)).wf = true := Go.WalkArith.wf_i64 ⟨by omega, by omega⟩
      have hstep : ∀ {w : World} {v' : Value}, w.ownsInts (b + 1) 3 .i64 v' (Go.Proofs.Ytcgjplolehhpjaa.H.kidsI l0 i (l0.getD i 0) ++ [(i : Int)]) → Go.Proofs.Ytcgjplolehhpjaa.H.GMap l0 (i + 1) (D.put (.int .i64 (l0.getD i 0)) (rowDatum .i64 v' (Go.Proofs.Ytcgjplolehhpjaa.H.kidsI l0 i (l0.getD i 0) ++ [(i : Int)]))) := fun ho => Go.Proofs.Ytcgjplolehhpjaa.H.GMap_step HD.out ho
      have hat0 := HD.out.at_ (l0.getD i 0)
      have HSTEP := Aside0.mk @hstep
      have HAT := Aside0.mk hat0
      clear hx hv hstep hat0 hpx
      generalize l0.getD i 0 = x at hxr hw HSTEP HAT
      have hkey : keyOf Try.prog 3 (.int .i64 x) = some (.int .i64 x) := Go.Maps.keyOf_int_mk Try.underlying3 hw
      have c3 : wr.cell? ⟨b + 1, 0, none⟩ = some (.map (some b)) := (blk_cell HK.out 0).trans rfl
      obtain ⟨es, clock, v, zs, hbm, hlk, hat, hoi, hzl, hback⟩ := Go.Proofs.Ytcgjplolehhpjaa.H.groups_at (P := Try.prog) (t := 55) Try.underlying3 Try.underlying55 (forest_Row_zero) (show wr.drew.ownsGroups Try.prog 3 (b + 1) 3 .i64 b i D from HG.out) (by unfold maxLen; omega) hw
      obtain rfl : zs = Go.Proofs.Ytcgjplolehhpjaa.H.kidsI l0 i x := Go.Proofs.Ytcgjplolehhpjaa.H.datI_row hoi (by rw [← HAT.out]; exact hat)
      have HBACK := Aside0.mk @hback
      have HOI := Aside0.mk hoi
      have HZL := Aside0.mk hzl
      clear hw hat hback hoi hzl
      go_wp2_with (fail)
      have HNK := Aside0.mk (Go.Proofs.Ytcgjplolehhpjaa.H.row_not HOI.out.1 (show wr.drew.heap[b + 1]? = _ from HK.out) (by decide))
      have HNB := Aside0.mk (Go.Proofs.Ytcgjplolehhpjaa.H.row_base HOI.out.1 (show b < b + 1 by omega))
      have HBM := Aside0.mk (show wr.drew.heap[b]? = some (.map es clock) from hbm)
      refine start_ (n := 9) (S := fun w' => w'.cell? ⟨b + 1, 0, none⟩ = some (.map (some b)) ∧ w'.heap[b]? = some (.map es clock) ∧ True ∧ True) (ds := [8]) #[false, false, false, false, false, false, false, false, false] (by kernel_rfl) rfl rfl ⟨c3, hbm, trivial, trivial⟩ (fun hHeld => ?_)
      refine pure_ (i := 1) (N := some 20) (v := ?_) (a' := ?_) #[false, true, false, false, false, false, false, false, false] rfl rfl (by kernel_rfl) (fun _ _ _ h => h) (Or.inl ⟨by rfl, ?_⟩) ?_ ?_
      rotate_left
      · intro w'
        go_simp
        with_reducible rfl
      rotate_left
      · simp only [Act.put, List.setIfInBounds_toArray, List.set_cons_zero, List.set_cons_succ, i64_w, i32_w]
        rfl
      refine pure_ (i := 3) (N := some 22) (v := ?_) (a' := ?_) #[false, true, false, true, false, false, false, false, false] rfl rfl (by kernel_rfl) (fun _ _ _ h => h) (Or.inl ⟨by rfl, ?_⟩) ?_ ?_
      rotate_left
      · intro w'
        go_simp
        with_reducible rfl
      rotate_left
      · simp only [Act.put, List.setIfInBounds_toArray, List.set_cons_zero, List.set_cons_succ, i64_w, i32_w]
        rfl
      refine pure_ (i := 5) (N := some 24) (v := ?_) (a' := ?_) #[false, true, false, true, false, true, false, false, false] rfl rfl (by kernel_rfl) (fun _ _ _ h => h) (Or.inl ⟨by rfl, ?_⟩) ?_ ?_
      rotate_left
      · intro w'
        go_simp
        with_reducible rfl
      rotate_left
      · simp only [Act.put, List.setIfInBounds_toArray, List.set_cons_zero, List.set_cons_succ, i64_w, i32_w]
        rfl
      refine take_ (i := 0) (N := some 19) (v := ?_) (a' := ?_) #[true, true, false, true, false, true, false, false, false] rfl rfl (by kernel_rfl) (fun _ _ _ h => h) (Or.inl ⟨by rfl, ?_⟩) hHeld ?_ ?_
      rotate_left
      · rintro w' ⟨s0, s1, s2, s3⟩
        go_simp
        with_reducible rfl
      rotate_left
      · simp only [Act.put, List.setIfInBounds_toArray, List.set_cons_zero, List.set_cons_succ, i64_w, i32_w]
        rfl
      refine take_ (i := 2) (N := some 21) (v := ?_) (a' := ?_) #[true, true, true, true, false, true, false, false, false] rfl rfl (by kernel_rfl) (fun _ _ _ h => h) (Or.inl ⟨by rfl, ?_⟩) hHeld ?_ ?_
      rotate_left
      · rintro w' ⟨s0, s1, s2, s3⟩
        go_simp
        with_reducible rfl
      rotate_left
      · simp only [Act.put, List.setIfInBounds_toArray, List.set_cons_zero, List.set_cons_succ, i64_w, i32_w]
        rfl
      refine take_ (i := 4) (N := some 23) (v := ?_) (a' := ?_) #[true, true, true, true, true, true, false, false, false] rfl rfl (by kernel_rfl) (fun _ _ _ h => h) (Or.inl ⟨by rfl, ?_⟩) hHeld ?_ ?_
      rotate_left
      · rintro w' ⟨s0, s1, s2, s3⟩
        go_simp
        with_reducible rfl
      rotate_left
      · simp only [Act.put, List.setIfInBounds_toArray, List.set_cons_zero, List.set_cons_succ, i64_w, i32_w]
        rfl
      refine one_ (i := 6) (N := some 25) #[true, true, true, true, true, true, true, false, false] rfl rfl (by kernel_rfl) (by decide) (fun K hK => ?_)
      refine event_step (w1 := wr.drew.alloc (.cells #[.int .i64 (i : Int)] 3 (0, 0))) (v := .slice (some ⟨wr.drew.heap.size, 0, none⟩) 1 1) ?hw ?hr ?_; (case hw => rfl); (case hr => first | (go_simp; done) | (go_simp; rfl))
      refine hK.out _ _ ⟨((blk_cell (blk_alloc (show wr.drew.heap[b + 1]? = _ from HK.out) _) 0).trans rfl), (blk_alloc HBM.out _), trivial, trivial⟩ (fun hHeld => ?_)
      clear hK K
      refine norm_ (a' := ?_) ?_ ?_
      rotate_left
      · show Act.put _ (some 25) _ = _
        simp only [Act.put, List.setIfInBounds_toArray, List.set_cons_zero, List.set_cons_succ, i64_w, i32_w]
        rfl
      refine one_ (i := 7) (N := some 26) #[true, true, true, true, true, true, true, true, false] rfl rfl (by kernel_rfl) (by decide) (fun K hK => ?_)
      refine step_append_cells (w0 := wr.drew) (W := wr.drew) (b + 1) ?hw7 (.tmp 23) (.tmp 25) 25 3 (.int .i64 0) 1 8 rfl Try.underlying25 info3 rfl (by decide) (by decide) v (Go.Proofs.Ytcgjplolehhpjaa.H.kidsI l0 i x).length _ [.int .i64 (i : Int)] rfl rfl rfl (by intro u hu; simp at hu; subst hu; rfl) HOI.out.1 (Below.refl _ _) (show b + 1 ≤ wr.heap.size by have := HZ.out; omega) (by have := HZL.out; omega) ?_; (case hw7 => rfl)
      intro v' w1 hown' hb1' hgrow hloc
      have HK1 := Aside0.mk (blk_grown (show wr.drew.heap[b + 1]? = _ from HK.out) hgrow HNK.out)
      have HM1 := Aside0.mk (blk_grown HBM.out hgrow HNB.out)
      have HOI1 := Aside0.mk (HOI.out.appended hown' (Go.WalkArith.wf_i64 ⟨by omega, by omega⟩))
      have HGROW := Aside0.mk hgrow
      have HLOC := Aside0.mk hloc
      clear hown' hb1' hgrow hloc
      refine hK.out _ _ ⟨((blk_cell HK1.out 0).trans rfl), HM1.out, trivial, trivial⟩ (fun hHeld => ?_)
      clear hK K
      refine norm_ (a' := ?_) ?_ ?_
      rotate_left
      · show Act.put _ (some 26) _ = _
        simp only [Act.put, List.setIfInBounds_toArray, List.set_cons_zero, List.set_cons_succ, i64_w, i32_w]
        rfl
      refine last_ (i := 8) (N := none) #[true, true, true, true, true, true, true, true, true] rfl rfl (by kernel_rfl) (by decide) (fun K hK => ?_)
      obtain ⟨w2, hrun2, hown2, hgrow2⟩ := HBACK.out w1 v' _ HGROW.out HOI1.out (by rw [List.length_append, List.length_singleton]; have := HZL.out; omega) HLOC.out
      have HOWN2 := Aside0.mk hown2
      have HGROW2 := Aside0.mk hgrow2
      clear hown2 hgrow2
      refine skip_ (w1 := w2) (by rfl) rfl ?_ ?_
      · (first | (go_simp; done) | (go_simp; rfl))
      refine hK.out _ _ ?_
      clear hK K
      refine done_ (by kernel_rfl) ?_
      clear hrun2
      go_wp2_with (fail)
      go_roundg (gk - 1)
      case measure => omega
      case rel => exact ⟨i + 1, _, by omega, by go_num, ⟨RowKit.Below.groups (show Below w.heap.size w wr.drew from below_drew1 HB.out) HOI.out HGROW.out HGROW2.out HB.out.size (by have := HSZ.out; omega) HSZ.out⟩, ⟨HSTEP.out HOI1.out⟩, HOWN2, ⟨blk_grown HK1.out HGROW2.out (by simp)⟩, ⟨by have h1 := HGROW.out.size; have h2 := HGROW2.out.size; have h3 := HZ.out; have h4 : wr.drew.heap.size = wr.heap.size := rfl; omega⟩⟩
    · have hltz : ¬ (i : Int) < (l0.length : Int) := by omega
      obtain rfl : i = l0.length := by omega
      have hL : ∀ (a : Int), -1 ≤ a → a < (l0.length : Int) → ∀ W, Below wr.heap.size wr W → ∃ A c, (Go.Proofs.Ytcgjplolehhpjaa.H.kidsI l0 l0.length a).length ≤ c ∧ (Instr.lookup 55 (.map (some b)) (.int .i64 a) false).run Try.prog W = .ok (.slice A (Go.Proofs.Ytcgjplolehhpjaa.H.kidsI l0 l0.length a).length c) W ∧ Kd.C (Kd.int .i64) wr A (Go.Proofs.Ytcgjplolehhpjaa.H.kidsI l0 l0.length a).length (Go.Proofs.Ytcgjplolehhpjaa.H.kidsI l0 l0.length a) := fun a ha0 ha1 W hW =>
        Go.Proofs.Ytcgjplolehhpjaa.H.kids_look (P := Try.prog) (t := 55) forest_Row_law Try.underlying3 Try.underlying55 (forest_Row_zero) HG.out HD.out a (Go.WalkArith.wf_i64 ⟨by omega, by omega⟩) W hW
      have HLL := Aside0.mk hL
      clear hL
      go_wp2_with (fail)
      have h7 : ∀ (F : Value), ((wr.alloc (.cells #[.slice none 0 0] 29 (0, 0))).alloc (.cells #[F] 56 (0, 0))).heap[wr.heap.size + 1]? = some (.cells #[F] 56 (0, 0)) := fun F => by
        have h_ := blk_new (wr.alloc (.cells #[.slice none 0 0] 29 (0, 0))) (.cells #[F] 56 (0, 0))
        rw [World.size_alloc] at h_
        exact h_
      have HST := Aside0.mk (show forest_Row_St wr (b + 1) (.slice none 0 0) [] ((wr.alloc (.cells #[.slice none 0 0] 29 (0, 0))).alloc (.cells #[.func (.func 41) #[] #[.pointer (some ⟨b + 1, 0, none⟩), .pointer (some ⟨wr.heap.size, 0, none⟩), .pointer (some ⟨wr.heap.size + 1, 0, none⟩)]] 56 (0, 0))) from
        ⟨below_alloc (below_alloc (Below.refl _ _) _) _, blk_alloc (blk_new _ _) _, h7 _, Kd.R_nil _ _ _ _ _⟩)
      have hcall := forest_Row_below wr (b + 1) b l0 HP.out hn HK.out HLL.out k (-1) 0 its _ [] _ (by omega) (by omega) HI.out (by have := HCL.out; simpa using this) HST.out
      rw [show ((0 : Nat) : Int) = 0 from rfl] at hcall
      refine hcall.mono ?_
      rintro e w5 ⟨rfl, v5, hs5⟩
      rw [List.nil_append] at hs5
      have HS5 := Aside0.mk hs5
      obtain ⟨A5, c5, rfl⟩ := Kd.R_slice hs5.row
      have c6 : w5.cell? ⟨wr.heap.size, 0, none⟩ = some (.slice A5 (its.map forest_Row_it).length c5) := (blk_cell hs5.b6 0).trans rfl
      clear hs5 hcall h7
      go_wp2_with (fail)
      go_ret
      exact ⟨.slice A5 its.length c5, rfl, Kd.R_lower (base := wr.heap.size + 2) (by have h_ := HS5.out.row; rw [List.length_map] at h_; exact h_) (show w.heap.size ≤ wr.heap.size + 2 by have := HB.out.size; omega), below_step HB.out HS5.out.below⟩


/-! ### merkhetlaw11_fixed: function 19 -/
def merkhetlaw11_fixed.f (k : Nat)  : Option (Bool) := (forest_Row.f k (([(-1), 0, 0, 1] : List Int))).bind fun t104 => (if (t104.length : Int) = 4 then (if 0 < (t104.length : Int) then (if ((rd_T34 t104 0).f0) = 0 then (if 1 < (t104.length : Int) then (if ((rd_T34 t104 1).f0) = 1 then (if 2 < (t104.length : Int) then (if ((rd_T34 t104 2).f0) = 3 then (if 3 < (t104.length : Int) then (if ((rd_T34 t104 3).f0) = 2 then (some (((rd_T34 t104 2).f1) == 2)) else (some false)) else (none)) else (some false)) else (none)) else (some false)) else (none)) else (some false)) else (none)) else (some false))
theorem merkhetlaw11_fixed.mono : ∀ k, LeO (merkhetlaw11_fixed.f k ) (merkhetlaw11_fixed.f (k + 1) ) := by
  intro  k
  unfold merkhetlaw11_fixed.f
  repeat' first
      | (with_reducible exact forest_Row.mono _ _)
      | (with_reducible exact LeO.refl _)
      | (with_reducible exact LeO.none _)
      | (with_reducible refine LeO.ite ?_ ?_)
      | (with_reducible refine LeO.bind ?_ (fun _ => ?_))
      | exact forest_Row.mono _ _
      | exact LeO.none _
      | refine LeO.ite ?_ ?_
      | refine LeO.bind ?_ (fun _ => ?_)
set_option maxHeartbeats 8000000 in
set_option maxRecDepth 100000 in
theorem merkhetlaw11_fixed.calls (k : Nat)  (r : Bool) (w : World) (h : merkhetlaw11_fixed.f k  = some r) :
    Calls Try.prog 19 #[] w fun e w' => e = .returned (.bool r) ∧ Below w.heap.size w w' := by
  have HB := Aside0.mk (Below.refl w.heap.size w)
  have H : ((forest_Row.f k (([(-1), 0, 0, 1] : List Int))).bind fun t104 => (if (t104.length : Int) = 4 then (if 0 < (t104.length : Int) then (if ((rd_T34 t104 0).f0) = 0 then (if 1 < (t104.length : Int) then (if ((rd_T34 t104 1).f0) = 1 then (if 2 < (t104.length : Int) then (if ((rd_T34 t104 2).f0) = 3 then (if 3 < (t104.length : Int) then (if ((rd_T34 t104 3).f0) = 2 then (some (((rd_T34 t104 2).f1) == 2)) else (some false)) else (none)) else (some false)) else (none)) else (some false)) else (none)) else (some false)) else (none)) else (some false))) = some r := h
  clear h
  obtain ⟨y101, hy101⟩ : ∃ y_ : List Int, y_ = (([(-1), 0, 0, 1] : List Int)) := ⟨_, rfl⟩
  replace H : ((forest_Row.f k y101).bind fun t104 => (if (t104.length : Int) = 4 then (if 0 < (t104.length : Int) then (if ((rd_T34 t104 0).f0) = 0 then (if 1 < (t104.length : Int) then (if ((rd_T34 t104 1).f0) = 1 then (if 2 < (t104.length : Int) then (if ((rd_T34 t104 2).f0) = 3 then (if 3 < (t104.length : Int) then (if ((rd_T34 t104 3).f0) = 2 then (some (((rd_T34 t104 2).f1) == 2)) else (some false)) else (none)) else (some false)) else (none)) else (some false)) else (none)) else (some false)) else (none)) else (some false))) = some r := by first | (rw [hy101]; with_reducible exact H) | (have H2_ := (Option.bind_some _ _).symm.trans H; rw [hy101]; with_reducible exact H2_) | (have H2_ := (Option.bind_some _ _).symm.trans H; with_reducible exact H2_) | with_reducible exact H | (rw [hy101]; exact H) | exact H
  have Ny101 := Aside0.mk hy101
  clear hy101
  replace H := Option.bind_eq_some_iff.mp H
  obtain ⟨t104, A10, H⟩ := H
  replace H : (if (t104.length : Int) = 4 then (if 0 < (t104.length : Int) then (if ((rd_T34 t104 0).f0) = 0 then (if 1 < (t104.length : Int) then (if ((rd_T34 t104 1).f0) = 1 then (if 2 < (t104.length : Int) then (if ((rd_T34 t104 2).f0) = 3 then (if 3 < (t104.length : Int) then (if ((rd_T34 t104 3).f0) = 2 then (some (((rd_T34 t104 2).f1) == 2)) else (some false)) else (none)) else (some false)) else (none)) else (some false)) else (none)) else (some false)) else (none)) else (some false)) = some r := H
  have A1 := Aside0.mk A10
  clear A10
  by_cases c2 : (t104.length : Int) = 4
  · rw [if_pos c2] at H
    have c2b0 : ((t104.length : Int) == 4) = true := beq_iff_eq.mpr c2
    have c2b1 : ((t104.length : Int) != 4) = false := bne_eq_false_iff_eq.mpr c2
    clear c2
    by_cases c3 : 0 < (t104.length : Int)
    · rw [if_pos c3] at H
      have c3b0 : decide (0 < (t104.length : Int)) = true := decide_eq_true c3
      have c3b1 : decide (0 < t104.length) = true := decide_eq_true (by omega)
      clear c3
      by_cases c4 : ((rd_T34 t104 0).f0) = 0
      · rw [if_pos c4] at H
        have c4b0 : (((rd_T34 t104 0).f0) == 0) = true := beq_iff_eq.mpr c4
        have c4b1 : (((rd_T34 t104 0).f0) != 0) = false := bne_eq_false_iff_eq.mpr c4
        clear c4
        by_cases c5 : 1 < (t104.length : Int)
        · rw [if_pos c5] at H
          have c5b0 : decide (1 < (t104.length : Int)) = true := decide_eq_true c5
          have c5b1 : decide (1 < t104.length) = true := decide_eq_true (by omega)
          clear c5
          by_cases c6 : ((rd_T34 t104 1).f0) = 1
          · rw [if_pos c6] at H
            have c6b0 : (((rd_T34 t104 1).f0) == 1) = true := beq_iff_eq.mpr c6
            have c6b1 : (((rd_T34 t104 1).f0) != 1) = false := bne_eq_false_iff_eq.mpr c6
            clear c6
            by_cases c7 : 2 < (t104.length : Int)
            · rw [if_pos c7] at H
              have c7b0 : decide (2 < (t104.length : Int)) = true := decide_eq_true c7
              have c7b1 : decide (2 < t104.length) = true := decide_eq_true (by omega)
              clear c7
              by_cases c8 : ((rd_T34 t104 2).f0) = 3
              · rw [if_pos c8] at H
                have c8b0 : (((rd_T34 t104 2).f0) == 3) = true := beq_iff_eq.mpr c8
                have c8b1 : (((rd_T34 t104 2).f0) != 3) = false := bne_eq_false_iff_eq.mpr c8
                clear c8
                by_cases c9 : 3 < (t104.length : Int)
                · rw [if_pos c9] at H
                  have c9b0 : decide (3 < (t104.length : Int)) = true := decide_eq_true c9
                  have c9b1 : decide (3 < t104.length) = true := decide_eq_true (by omega)
                  clear c9
                  by_cases c10 : ((rd_T34 t104 3).f0) = 2
                  · rw [if_pos c10] at H
                    have c10b0 : (((rd_T34 t104 3).f0) == 2) = true := beq_iff_eq.mpr c10
                    have c10b1 : (((rd_T34 t104 3).f0) != 2) = false := bne_eq_false_iff_eq.mpr c10
                    clear c10
                    obtain rfl := Option.some.inj H
                    go_enter Try.func19, Try.ntmps19
                    go_wp2_with (first | ((with_reducible refine gate_dst (N := 2) rfl ?_); refine Kd.R_lit (Kd.int .i64) _ 3 ?hg (N := 2) ?hd (xs := ([(-1), 0, 0, 1] : List Int)) (inner := [.int .i64 (-1), .int .i64 0, .int .i64 0, .int .i64 1]) (ok := fun _ => True) (okp := fun _ => True) ?hr ?hp (fun _ hk => hk) trivial (Below.refl _ _) (Nat.le_refl _) (by simp) ?_; (case hd => rfl); (case hg => rfl); (case hr => first | (go_simp; done) | (go_simp; rfl)); (case hp => exact (Reps.one (show Kd.M (Kd.int .i64) _ _ _ (-1) [.int .i64 (-1)] from rfl) (Reps.one (show Kd.M (Kd.int .i64) _ _ _ 0 [.int .i64 0] from rfl) (Reps.one (show Kd.M (Kd.int .i64) _ _ _ 0 [.int .i64 0] from rfl) (Reps.one (show Kd.M (Kd.int .i64) _ _ _ 1 [.int .i64 1] from rfl) (Reps.none _ _)))))); intro v102 w11 ho12 hb hg_ hnew_; clear hg_ hnew_; (first | rw [← Ny101.out] at ho12 | (simp only [Int.reduceToNat] at ho12; rw [← Ny101.out] at ho12)); have n0_ := Aside0.mk (Kd.R_lower ho12 (below_size (by repeat (first | (with_reducible first | exact HB.out | apply below_alloc | apply pw_below_drewN | apply below_drew1) | exact HB.out)))); have n1_ := Aside0.mk (below_step (by repeat (first | (with_reducible first | exact HB.out | apply below_alloc | apply pw_below_drewN | apply below_drew1) | exact HB.out)) hb); clear HB; have HO103 := n0_; have HB := n1_; clear n0_ n1_; clear hb ho12; obtain ⟨Ao13, co13, eo13⟩ := Kd.R_slice HO103.out; subst eo13) | ((with_reducible refine gate_callee (f := 21) rfl ?_); refine goesL_ (some 3) rfl rfl Try.func21 (by kernel_rfl) rfl #[.slice Ao13 y101.length co13] rfl (by (try simp only [List.map_toArray, List.map_cons, List.map_nil]); first | done | rfl | (simp only [List.length_drop, List.length_take]; rfl)) ?_; (with_reducible refine (forest_Row.calls k _ _ y101 t104 _ ?side1 ?side2 A1.out).mono ?_); (case side1 => repeat (first | exact (Kd.R_reads' HO103.out).2.2 | (with_reducible refine Kd.C_alloc ?_ _) | (with_reducible refine Kd.C_drewN ?_ _) | (with_reducible refine Kd.C_drew ?_))); (case side2 => exact (Kd.R_reads' HO103.out).2.1); rintro e w14 ⟨v105, rfl, ho0, hb⟩; refine ⟨_, rfl, ?_⟩; have n0_ := Aside0.mk (Kd.R_below (by (with_reducible repeat (first | apply Kd.R_alloc | apply Kd.R_drewN | apply Kd.R_drew)); exact HO103.out) hb); have n1_ := Aside0.mk (Kd.R_lower ho0 (below_size (by repeat (first | (with_reducible first | exact HB.out | apply below_alloc | apply pw_below_drewN | apply below_drew1) | exact HB.out)))); have n2_ := Aside0.mk (below_step (by repeat (first | (with_reducible first | exact HB.out | apply below_alloc | apply pw_below_drewN | apply below_drew1) | exact HB.out)) hb); clear HO103; clear HB; have HO103 := n0_; have HO106 := n1_; have HB := n2_; clear n0_ n1_ n2_; (try clear hb); (try clear hb2); (try clear hk); (try clear hi); (try clear ho0); obtain ⟨Ao15, co15, eo15⟩ := Kd.R_slice HO106.out; subst eo15; have p107 : 0 ≤ (0 : Int) := (by omega); have q107 : 0 < (t104.length : Int) := of_decide_eq_true (by first | (with_reducible assumption) | assumption); obtain ⟨ad107, e107, hx107_0, hx107_1, hx107_2⟩ := at_T34 (Kd.R_reads' HO106.out).2.2 0 p107 q107; cases e107; have qi107 : (0 < t104.length) = True := eq_true (by omega); (try rw [show ((0 : Int)).toNat = 0 from rfl] at hx107_0); (try rw [show 0 * 3 = 0 from rfl] at hx107_0); (try rw [Addr.add_zero'] at hx107_0); (try rw [show ((0 : Int)).toNat = 0 from rfl] at hx107_1); (try rw [show 0 * 3 = 0 from rfl] at hx107_1); (try rw [Addr.add_zero'] at hx107_1); (try rw [show ((0 : Int)).toNat = 0 from rfl] at hx107_2); (try rw [show 0 * 3 = 0 from rfl] at hx107_2); (try rw [Addr.add_zero'] at hx107_2); replace p107 := eq_true p107; replace q107 := eq_true q107; have p108 : 0 ≤ (1 : Int) := (by omega); have q108 : 1 < (t104.length : Int) := of_decide_eq_true (by first | (with_reducible assumption) | assumption); obtain ⟨ad108, e108, hx108_0, hx108_1, hx108_2⟩ := at_T34 (Kd.R_reads' HO106.out).2.2 1 p108 q108; obtain rfl : ad107 = ad108 := (by injection e108); (try simp only [show (1 : Int).toNat = 1 from rfl, Nat.reduceMul, Nat.reduceEqDiff, Go.Addr.add, ↓reduceIte] at hx108_0); (try simp only [show (1 : Int).toNat = 1 from rfl, Nat.reduceMul, Nat.reduceEqDiff, Go.Addr.add, ↓reduceIte] at hx108_1); (try simp only [show (1 : Int).toNat = 1 from rfl, Nat.reduceMul, Nat.reduceEqDiff, Go.Addr.add, ↓reduceIte] at hx108_2); have qi108 : (1 < t104.length) = True := eq_true (by omega); (try rw [show ((1 : Int)).toNat = 1 from rfl] at hx108_0); (try rw [show 1 * 3 = 3 from rfl] at hx108_0); (try rw [show ((1 : Int)).toNat = 1 from rfl] at hx108_1); (try rw [show 1 * 3 = 3 from rfl] at hx108_1); (try rw [show ((1 : Int)).toNat = 1 from rfl] at hx108_2); (try rw [show 1 * 3 = 3 from rfl] at hx108_2); replace p108 := eq_true p108; replace q108 := eq_true q108; have p109 : 0 ≤ (2 : Int) := (by omega); have q109 : 2 < (t104.length : Int) := of_decide_eq_true (by first | (with_reducible assumption) | assumption); obtain ⟨ad109, e109, hx109_0, hx109_1, hx109_2⟩ := at_T34 (Kd.R_reads' HO106.out).2.2 2 p109 q109; obtain rfl : ad107 = ad109 := (by injection e109); (try simp only [show (2 : Int).toNat = 2 from rfl, Nat.reduceMul, Nat.reduceEqDiff, Go.Addr.add, ↓reduceIte] at hx109_0); (try simp only [show (2 : Int).toNat = 2 from rfl, Nat.reduceMul, Nat.reduceEqDiff, Go.Addr.add, ↓reduceIte] at hx109_1); (try simp only [show (2 : Int).toNat = 2 from rfl, Nat.reduceMul, Nat.reduceEqDiff, Go.Addr.add, ↓reduceIte] at hx109_2); have qi109 : (2 < t104.length) = True := eq_true (by omega); (try rw [show ((2 : Int)).toNat = 2 from rfl] at hx109_0); (try rw [show 2 * 3 = 6 from rfl] at hx109_0); (try rw [show ((2 : Int)).toNat = 2 from rfl] at hx109_1); (try rw [show 2 * 3 = 6 from rfl] at hx109_1); (try rw [show ((2 : Int)).toNat = 2 from rfl] at hx109_2); (try rw [show 2 * 3 = 6 from rfl] at hx109_2); replace p109 := eq_true p109; replace q109 := eq_true q109; have p110 : 0 ≤ (3 : Int) := (by omega); have q110 : 3 < (t104.length : Int) := of_decide_eq_true (by first | (with_reducible assumption) | assumption); obtain ⟨ad110, e110, hx110_0, hx110_1, hx110_2⟩ := at_T34 (Kd.R_reads' HO106.out).2.2 3 p110 q110; obtain rfl : ad107 = ad110 := (by injection e110); (try simp only [show (3 : Int).toNat = 3 from rfl, Nat.reduceMul, Nat.reduceEqDiff, Go.Addr.add, ↓reduceIte] at hx110_0); (try simp only [show (3 : Int).toNat = 3 from rfl, Nat.reduceMul, Nat.reduceEqDiff, Go.Addr.add, ↓reduceIte] at hx110_1); (try simp only [show (3 : Int).toNat = 3 from rfl, Nat.reduceMul, Nat.reduceEqDiff, Go.Addr.add, ↓reduceIte] at hx110_2); have qi110 : (3 < t104.length) = True := eq_true (by omega); (try rw [show ((3 : Int)).toNat = 3 from rfl] at hx110_0); (try rw [show 3 * 3 = 9 from rfl] at hx110_0); (try rw [show ((3 : Int)).toNat = 3 from rfl] at hx110_1); (try rw [show 3 * 3 = 9 from rfl] at hx110_1); (try rw [show ((3 : Int)).toNat = 3 from rfl] at hx110_2); (try rw [show 3 * 3 = 9 from rfl] at hx110_2); replace p110 := eq_true p110; replace q110 := eq_true q110; have p111 : 0 ≤ (2 : Int) := (by omega); have q111 : 2 < (t104.length : Int) := of_decide_eq_true (by first | (with_reducible assumption) | assumption); obtain ⟨ad111, e111, hx111_0, hx111_1, hx111_2⟩ := at_T34 (Kd.R_reads' HO106.out).2.2 2 p111 q111; obtain rfl : ad107 = ad111 := (by injection e111); (try simp only [show (2 : Int).toNat = 2 from rfl, Nat.reduceMul, Nat.reduceEqDiff, Go.Addr.add, ↓reduceIte] at hx111_0); (try simp only [show (2 : Int).toNat = 2 from rfl, Nat.reduceMul, Nat.reduceEqDiff, Go.Addr.add, ↓reduceIte] at hx111_1); (try simp only [show (2 : Int).toNat = 2 from rfl, Nat.reduceMul, Nat.reduceEqDiff, Go.Addr.add, ↓reduceIte] at hx111_2); have qi111 : (2 < t104.length) = True := eq_true (by omega); (try rw [show ((2 : Int)).toNat = 2 from rfl] at hx111_0); (try rw [show 2 * 3 = 6 from rfl] at hx111_0); (try rw [show ((2 : Int)).toNat = 2 from rfl] at hx111_1); (try rw [show 2 * 3 = 6 from rfl] at hx111_1); (try rw [show ((2 : Int)).toNat = 2 from rfl] at hx111_2); (try rw [show 2 * 3 = 6 from rfl] at hx111_2); replace p111 := eq_true p111; replace q111 := eq_true q111))
                    go_ret
                    exact ⟨by first | rfl | (simp [errW_none, errW_some] <;> rfl) | (simp [*, errW_none, errW_some] <;> rfl), by repeat (first | (with_reducible first | exact HB.out | apply below_alloc | apply pw_below_drewN | apply below_drew1) | exact HB.out)⟩
                  · rw [if_neg c10] at H
                    have c10b0 : (((rd_T34 t104 3).f0) == 2) = false := beq_eq_false_iff_ne.mpr c10
                    have c10b1 : (((rd_T34 t104 3).f0) != 2) = true := bne_iff_ne.mpr c10
                    obtain rfl := Option.some.inj H
                    go_enter Try.func19, Try.ntmps19
                    go_wp2_with (first | ((with_reducible refine gate_dst (N := 2) rfl ?_); refine Kd.R_lit (Kd.int .i64) _ 3 ?hg (N := 2) ?hd (xs := ([(-1), 0, 0, 1] : List Int)) (inner := [.int .i64 (-1), .int .i64 0, .int .i64 0, .int .i64 1]) (ok := fun _ => True) (okp := fun _ => True) ?hr ?hp (fun _ hk => hk) trivial (Below.refl _ _) (Nat.le_refl _) (by simp) ?_; (case hd => rfl); (case hg => rfl); (case hr => first | (go_simp; done) | (go_simp; rfl)); (case hp => exact (Reps.one (show Kd.M (Kd.int .i64) _ _ _ (-1) [.int .i64 (-1)] from rfl) (Reps.one (show Kd.M (Kd.int .i64) _ _ _ 0 [.int .i64 0] from rfl) (Reps.one (show Kd.M (Kd.int .i64) _ _ _ 0 [.int .i64 0] from rfl) (Reps.one (show Kd.M (Kd.int .i64) _ _ _ 1 [.int .i64 1] from rfl) (Reps.none _ _)))))); intro v102 w16 ho17 hb hg_ hnew_; clear hg_ hnew_; (first | rw [← Ny101.out] at ho17 | (simp only [Int.reduceToNat] at ho17; rw [← Ny101.out] at ho17)); have n0_ := Aside0.mk (Kd.R_lower ho17 (below_size (by repeat (first | (with_reducible first | exact HB.out | apply below_alloc | apply pw_below_drewN | apply below_drew1) | exact HB.out)))); have n1_ := Aside0.mk (below_step (by repeat (first | (with_reducible first | exact HB.out | apply below_alloc | apply pw_below_drewN | apply below_drew1) | exact HB.out)) hb); clear HB; have HO103 := n0_; have HB := n1_; clear n0_ n1_; clear hb ho17; obtain ⟨Ao18, co18, eo18⟩ := Kd.R_slice HO103.out; subst eo18) | ((with_reducible refine gate_callee (f := 21) rfl ?_); refine goesL_ (some 3) rfl rfl Try.func21 (by kernel_rfl) rfl #[.slice Ao18 y101.length co18] rfl (by (try simp only [List.map_toArray, List.map_cons, List.map_nil]); first | done | rfl | (simp only [List.length_drop, List.length_take]; rfl)) ?_; (with_reducible refine (forest_Row.calls k _ _ y101 t104 _ ?side1 ?side2 A1.out).mono ?_); (case side1 => repeat (first | exact (Kd.R_reads' HO103.out).2.2 | (with_reducible refine Kd.C_alloc ?_ _) | (with_reducible refine Kd.C_drewN ?_ _) | (with_reducible refine Kd.C_drew ?_))); (case side2 => exact (Kd.R_reads' HO103.out).2.1); rintro e w19 ⟨v105, rfl, ho0, hb⟩; refine ⟨_, rfl, ?_⟩; have n0_ := Aside0.mk (Kd.R_below (by (with_reducible repeat (first | apply Kd.R_alloc | apply Kd.R_drewN | apply Kd.R_drew)); exact HO103.out) hb); have n1_ := Aside0.mk (Kd.R_lower ho0 (below_size (by repeat (first | (with_reducible first | exact HB.out | apply below_alloc | apply pw_below_drewN | apply below_drew1) | exact HB.out)))); have n2_ := Aside0.mk (below_step (by repeat (first | (with_reducible first | exact HB.out | apply below_alloc | apply pw_below_drewN | apply below_drew1) | exact HB.out)) hb); clear HO103; clear HB; have HO103 := n0_; have HO106 := n1_; have HB := n2_; clear n0_ n1_ n2_; (try clear hb); (try clear hb2); (try clear hk); (try clear hi); (try clear ho0); obtain ⟨Ao20, co20, eo20⟩ := Kd.R_slice HO106.out; subst eo20; have p107 : 0 ≤ (0 : Int) := (by omega); have q107 : 0 < (t104.length : Int) := of_decide_eq_true (by first | (with_reducible assumption) | assumption); obtain ⟨ad107, e107, hx107_0, hx107_1, hx107_2⟩ := at_T34 (Kd.R_reads' HO106.out).2.2 0 p107 q107; cases e107; have qi107 : (0 < t104.length) = True := eq_true (by omega); (try rw [show ((0 : Int)).toNat = 0 from rfl] at hx107_0); (try rw [show 0 * 3 = 0 from rfl] at hx107_0); (try rw [Addr.add_zero'] at hx107_0); (try rw [show ((0 : Int)).toNat = 0 from rfl] at hx107_1); (try rw [show 0 * 3 = 0 from rfl] at hx107_1); (try rw [Addr.add_zero'] at hx107_1); (try rw [show ((0 : Int)).toNat = 0 from rfl] at hx107_2); (try rw [show 0 * 3 = 0 from rfl] at hx107_2); (try rw [Addr.add_zero'] at hx107_2); replace p107 := eq_true p107; replace q107 := eq_true q107; have p108 : 0 ≤ (1 : Int) := (by omega); have q108 : 1 < (t104.length : Int) := of_decide_eq_true (by first | (with_reducible assumption) | assumption); obtain ⟨ad108, e108, hx108_0, hx108_1, hx108_2⟩ := at_T34 (Kd.R_reads' HO106.out).2.2 1 p108 q108; obtain rfl : ad107 = ad108 := (by injection e108); (try simp only [show (1 : Int).toNat = 1 from rfl, Nat.reduceMul, Nat.reduceEqDiff, Go.Addr.add, ↓reduceIte] at hx108_0); (try simp only [show (1 : Int).toNat = 1 from rfl, Nat.reduceMul, Nat.reduceEqDiff, Go.Addr.add, ↓reduceIte] at hx108_1); (try simp only [show (1 : Int).toNat = 1 from rfl, Nat.reduceMul, Nat.reduceEqDiff, Go.Addr.add, ↓reduceIte] at hx108_2); have qi108 : (1 < t104.length) = True := eq_true (by omega); (try rw [show ((1 : Int)).toNat = 1 from rfl] at hx108_0); (try rw [show 1 * 3 = 3 from rfl] at hx108_0); (try rw [show ((1 : Int)).toNat = 1 from rfl] at hx108_1); (try rw [show 1 * 3 = 3 from rfl] at hx108_1); (try rw [show ((1 : Int)).toNat = 1 from rfl] at hx108_2); (try rw [show 1 * 3 = 3 from rfl] at hx108_2); replace p108 := eq_true p108; replace q108 := eq_true q108; have p109 : 0 ≤ (2 : Int) := (by omega); have q109 : 2 < (t104.length : Int) := of_decide_eq_true (by first | (with_reducible assumption) | assumption); obtain ⟨ad109, e109, hx109_0, hx109_1, hx109_2⟩ := at_T34 (Kd.R_reads' HO106.out).2.2 2 p109 q109; obtain rfl : ad107 = ad109 := (by injection e109); (try simp only [show (2 : Int).toNat = 2 from rfl, Nat.reduceMul, Nat.reduceEqDiff, Go.Addr.add, ↓reduceIte] at hx109_0); (try simp only [show (2 : Int).toNat = 2 from rfl, Nat.reduceMul, Nat.reduceEqDiff, Go.Addr.add, ↓reduceIte] at hx109_1); (try simp only [show (2 : Int).toNat = 2 from rfl, Nat.reduceMul, Nat.reduceEqDiff, Go.Addr.add, ↓reduceIte] at hx109_2); have qi109 : (2 < t104.length) = True := eq_true (by omega); (try rw [show ((2 : Int)).toNat = 2 from rfl] at hx109_0); (try rw [show 2 * 3 = 6 from rfl] at hx109_0); (try rw [show ((2 : Int)).toNat = 2 from rfl] at hx109_1); (try rw [show 2 * 3 = 6 from rfl] at hx109_1); (try rw [show ((2 : Int)).toNat = 2 from rfl] at hx109_2); (try rw [show 2 * 3 = 6 from rfl] at hx109_2); replace p109 := eq_true p109; replace q109 := eq_true q109; have p110 : 0 ≤ (3 : Int) := (by omega); have q110 : 3 < (t104.length : Int) := of_decide_eq_true (by first | (with_reducible assumption) | assumption); obtain ⟨ad110, e110, hx110_0, hx110_1, hx110_2⟩ := at_T34 (Kd.R_reads' HO106.out).2.2 3 p110 q110; obtain rfl : ad107 = ad110 := (by injection e110); (try simp only [show (3 : Int).toNat = 3 from rfl, Nat.reduceMul, Nat.reduceEqDiff, Go.Addr.add, ↓reduceIte] at hx110_0); (try simp only [show (3 : Int).toNat = 3 from rfl, Nat.reduceMul, Nat.reduceEqDiff, Go.Addr.add, ↓reduceIte] at hx110_1); (try simp only [show (3 : Int).toNat = 3 from rfl, Nat.reduceMul, Nat.reduceEqDiff, Go.Addr.add, ↓reduceIte] at hx110_2); have qi110 : (3 < t104.length) = True := eq_true (by omega); (try rw [show ((3 : Int)).toNat = 3 from rfl] at hx110_0); (try rw [show 3 * 3 = 9 from rfl] at hx110_0); (try rw [show ((3 : Int)).toNat = 3 from rfl] at hx110_1); (try rw [show 3 * 3 = 9 from rfl] at hx110_1); (try rw [show ((3 : Int)).toNat = 3 from rfl] at hx110_2); (try rw [show 3 * 3 = 9 from rfl] at hx110_2); replace p110 := eq_true p110; replace q110 := eq_true q110))
                    go_ret
                    exact ⟨by first | rfl | (simp [errW_none, errW_some] <;> rfl) | (simp [*, errW_none, errW_some] <;> rfl), by repeat (first | (with_reducible first | exact HB.out | apply below_alloc | apply pw_below_drewN | apply below_drew1) | exact HB.out)⟩
                · rw [if_neg c9] at H
                  exact absurd H (by simp)
              · rw [if_neg c8] at H
                have c8b0 : (((rd_T34 t104 2).f0) == 3) = false := beq_eq_false_iff_ne.mpr c8
                have c8b1 : (((rd_T34 t104 2).f0) != 3) = true := bne_iff_ne.mpr c8
                obtain rfl := Option.some.inj H
                go_enter Try.func19, Try.ntmps19
                go_wp2_with (first | ((with_reducible refine gate_dst (N := 2) rfl ?_); refine Kd.R_lit (Kd.int .i64) _ 3 ?hg (N := 2) ?hd (xs := ([(-1), 0, 0, 1] : List Int)) (inner := [.int .i64 (-1), .int .i64 0, .int .i64 0, .int .i64 1]) (ok := fun _ => True) (okp := fun _ => True) ?hr ?hp (fun _ hk => hk) trivial (Below.refl _ _) (Nat.le_refl _) (by simp) ?_; (case hd => rfl); (case hg => rfl); (case hr => first | (go_simp; done) | (go_simp; rfl)); (case hp => exact (Reps.one (show Kd.M (Kd.int .i64) _ _ _ (-1) [.int .i64 (-1)] from rfl) (Reps.one (show Kd.M (Kd.int .i64) _ _ _ 0 [.int .i64 0] from rfl) (Reps.one (show Kd.M (Kd.int .i64) _ _ _ 0 [.int .i64 0] from rfl) (Reps.one (show Kd.M (Kd.int .i64) _ _ _ 1 [.int .i64 1] from rfl) (Reps.none _ _)))))); intro v102 w21 ho22 hb hg_ hnew_; clear hg_ hnew_; (first | rw [← Ny101.out] at ho22 | (simp only [Int.reduceToNat] at ho22; rw [← Ny101.out] at ho22)); have n0_ := Aside0.mk (Kd.R_lower ho22 (below_size (by repeat (first | (with_reducible first | exact HB.out | apply below_alloc | apply pw_below_drewN | apply below_drew1) | exact HB.out)))); have n1_ := Aside0.mk (below_step (by repeat (first | (with_reducible first | exact HB.out | apply below_alloc | apply pw_below_drewN | apply below_drew1) | exact HB.out)) hb); clear HB; have HO103 := n0_; have HB := n1_; clear n0_ n1_; clear hb ho22; obtain ⟨Ao23, co23, eo23⟩ := Kd.R_slice HO103.out; subst eo23) | ((with_reducible refine gate_callee (f := 21) rfl ?_); refine goesL_ (some 3) rfl rfl Try.func21 (by kernel_rfl) rfl #[.slice Ao23 y101.length co23] rfl (by (try simp only [List.map_toArray, List.map_cons, List.map_nil]); first | done | rfl | (simp only [List.length_drop, List.length_take]; rfl)) ?_; (with_reducible refine (forest_Row.calls k _ _ y101 t104 _ ?side1 ?side2 A1.out).mono ?_); (case side1 => repeat (first | exact (Kd.R_reads' HO103.out).2.2 | (with_reducible refine Kd.C_alloc ?_ _) | (with_reducible refine Kd.C_drewN ?_ _) | (with_reducible refine Kd.C_drew ?_))); (case side2 => exact (Kd.R_reads' HO103.out).2.1); rintro e w24 ⟨v105, rfl, ho0, hb⟩; refine ⟨_, rfl, ?_⟩; have n0_ := Aside0.mk (Kd.R_below (by (with_reducible repeat (first | apply Kd.R_alloc | apply Kd.R_drewN | apply Kd.R_drew)); exact HO103.out) hb); have n1_ := Aside0.mk (Kd.R_lower ho0 (below_size (by repeat (first | (with_reducible first | exact HB.out | apply below_alloc | apply pw_below_drewN | apply below_drew1) | exact HB.out)))); have n2_ := Aside0.mk (below_step (by repeat (first | (with_reducible first | exact HB.out | apply below_alloc | apply pw_below_drewN | apply below_drew1) | exact HB.out)) hb); clear HO103; clear HB; have HO103 := n0_; have HO106 := n1_; have HB := n2_; clear n0_ n1_ n2_; (try clear hb); (try clear hb2); (try clear hk); (try clear hi); (try clear ho0); obtain ⟨Ao25, co25, eo25⟩ := Kd.R_slice HO106.out; subst eo25; have p107 : 0 ≤ (0 : Int) := (by omega); have q107 : 0 < (t104.length : Int) := of_decide_eq_true (by first | (with_reducible assumption) | assumption); obtain ⟨ad107, e107, hx107_0, hx107_1, hx107_2⟩ := at_T34 (Kd.R_reads' HO106.out).2.2 0 p107 q107; cases e107; have qi107 : (0 < t104.length) = True := eq_true (by omega); (try rw [show ((0 : Int)).toNat = 0 from rfl] at hx107_0); (try rw [show 0 * 3 = 0 from rfl] at hx107_0); (try rw [Addr.add_zero'] at hx107_0); (try rw [show ((0 : Int)).toNat = 0 from rfl] at hx107_1); (try rw [show 0 * 3 = 0 from rfl] at hx107_1); (try rw [Addr.add_zero'] at hx107_1); (try rw [show ((0 : Int)).toNat = 0 from rfl] at hx107_2); (try rw [show 0 * 3 = 0 from rfl] at hx107_2); (try rw [Addr.add_zero'] at hx107_2); replace p107 := eq_true p107; replace q107 := eq_true q107; have p108 : 0 ≤ (1 : Int) := (by omega); have q108 : 1 < (t104.length : Int) := of_decide_eq_true (by first | (with_reducible assumption) | assumption); obtain ⟨ad108, e108, hx108_0, hx108_1, hx108_2⟩ := at_T34 (Kd.R_reads' HO106.out).2.2 1 p108 q108; obtain rfl : ad107 = ad108 := (by injection e108); (try simp only [show (1 : Int).toNat = 1 from rfl, Nat.reduceMul, Nat.reduceEqDiff, Go.Addr.add, ↓reduceIte] at hx108_0); (try simp only [show (1 : Int).toNat = 1 from rfl, Nat.reduceMul, Nat.reduceEqDiff, Go.Addr.add, ↓reduceIte] at hx108_1); (try simp only [show (1 : Int).toNat = 1 from rfl, Nat.reduceMul, Nat.reduceEqDiff, Go.Addr.add, ↓reduceIte] at hx108_2); have qi108 : (1 < t104.length) = True := eq_true (by omega); (try rw [show ((1 : Int)).toNat = 1 from rfl] at hx108_0); (try rw [show 1 * 3 = 3 from rfl] at hx108_0); (try rw [show ((1 : Int)).toNat = 1 from rfl] at hx108_1); (try rw [show 1 * 3 = 3 from rfl] at hx108_1); (try rw [show ((1 : Int)).toNat = 1 from rfl] at hx108_2); (try rw [show 1 * 3 = 3 from rfl] at hx108_2); replace p108 := eq_true p108; replace q108 := eq_true q108; have p109 : 0 ≤ (2 : Int) := (by omega); have q109 : 2 < (t104.length : Int) := of_decide_eq_true (by first | (with_reducible assumption) | assumption); obtain ⟨ad109, e109, hx109_0, hx109_1, hx109_2⟩ := at_T34 (Kd.R_reads' HO106.out).2.2 2 p109 q109; obtain rfl : ad107 = ad109 := (by injection e109); (try simp only [show (2 : Int).toNat = 2 from rfl, Nat.reduceMul, Nat.reduceEqDiff, Go.Addr.add, ↓reduceIte] at hx109_0); (try simp only [show (2 : Int).toNat = 2 from rfl, Nat.reduceMul, Nat.reduceEqDiff, Go.Addr.add, ↓reduceIte] at hx109_1); (try simp only [show (2 : Int).toNat = 2 from rfl, Nat.reduceMul, Nat.reduceEqDiff, Go.Addr.add, ↓reduceIte] at hx109_2); have qi109 : (2 < t104.length) = True := eq_true (by omega); (try rw [show ((2 : Int)).toNat = 2 from rfl] at hx109_0); (try rw [show 2 * 3 = 6 from rfl] at hx109_0); (try rw [show ((2 : Int)).toNat = 2 from rfl] at hx109_1); (try rw [show 2 * 3 = 6 from rfl] at hx109_1); (try rw [show ((2 : Int)).toNat = 2 from rfl] at hx109_2); (try rw [show 2 * 3 = 6 from rfl] at hx109_2); replace p109 := eq_true p109; replace q109 := eq_true q109))
                go_ret
                exact ⟨by first | rfl | (simp [errW_none, errW_some] <;> rfl) | (simp [*, errW_none, errW_some] <;> rfl), by repeat (first | (with_reducible first | exact HB.out | apply below_alloc | apply pw_below_drewN | apply below_drew1) | exact HB.out)⟩
            · rw [if_neg c7] at H
              exact absurd H (by simp)
          · rw [if_neg c6] at H
            have c6b0 : (((rd_T34 t104 1).f0) == 1) = false := beq_eq_false_iff_ne.mpr c6
            have c6b1 : (((rd_T34 t104 1).f0) != 1) = true := bne_iff_ne.mpr c6
            obtain rfl := Option.some.inj H
            go_enter Try.func19, Try.ntmps19
            go_wp2_with (first | ((with_reducible refine gate_dst (N := 2) rfl ?_); refine Kd.R_lit (Kd.int .i64) _ 3 ?hg (N := 2) ?hd (xs := ([(-1), 0, 0, 1] : List Int)) (inner := [.int .i64 (-1), .int .i64 0, .int .i64 0, .int .i64 1]) (ok := fun _ => True) (okp := fun _ => True) ?hr ?hp (fun _ hk => hk) trivial (Below.refl _ _) (Nat.le_refl _) (by simp) ?_; (case hd => rfl); (case hg => rfl); (case hr => first | (go_simp; done) | (go_simp; rfl)); (case hp => exact (Reps.one (show Kd.M (Kd.int .i64) _ _ _ (-1) [.int .i64 (-1)] from rfl) (Reps.one (show Kd.M (Kd.int .i64) _ _ _ 0 [.int .i64 0] from rfl) (Reps.one (show Kd.M (Kd.int .i64) _ _ _ 0 [.int .i64 0] from rfl) (Reps.one (show Kd.M (Kd.int .i64) _ _ _ 1 [.int .i64 1] from rfl) (Reps.none _ _)))))); intro v102 w26 ho27 hb hg_ hnew_; clear hg_ hnew_; (first | rw [← Ny101.out] at ho27 | (simp only [Int.reduceToNat] at ho27; rw [← Ny101.out] at ho27)); have n0_ := Aside0.mk (Kd.R_lower ho27 (below_size (by repeat (first | (with_reducible first | exact HB.out | apply below_alloc | apply pw_below_drewN | apply below_drew1) | exact HB.out)))); have n1_ := Aside0.mk (below_step (by repeat (first | (with_reducible first | exact HB.out | apply below_alloc | apply pw_below_drewN | apply below_drew1) | exact HB.out)) hb); clear HB; have HO103 := n0_; have HB := n1_; clear n0_ n1_; clear hb ho27; obtain ⟨Ao28, co28, eo28⟩ := Kd.R_slice HO103.out; subst eo28) | ((with_reducible refine gate_callee (f := 21) rfl ?_); refine goesL_ (some 3) rfl rfl Try.func21 (by kernel_rfl) rfl #[.slice Ao28 y101.length co28] rfl (by (try simp only [List.map_toArray, List.map_cons, List.map_nil]); first | done | rfl | (simp only [List.length_drop, List.length_take]; rfl)) ?_; (with_reducible refine (forest_Row.calls k _ _ y101 t104 _ ?side1 ?side2 A1.out).mono ?_); (case side1 => repeat (first | exact (Kd.R_reads' HO103.out).2.2 | (with_reducible refine Kd.C_alloc ?_ _) | (with_reducible refine Kd.C_drewN ?_ _) | (with_reducible refine Kd.C_drew ?_))); (case side2 => exact (Kd.R_reads' HO103.out).2.1); rintro e w29 ⟨v105, rfl, ho0, hb⟩; refine ⟨_, rfl, ?_⟩; have n0_ := Aside0.mk (Kd.R_below (by (with_reducible repeat (first | apply Kd.R_alloc | apply Kd.R_drewN | apply Kd.R_drew)); exact HO103.out) hb); have n1_ := Aside0.mk (Kd.R_lower ho0 (below_size (by repeat (first | (with_reducible first | exact HB.out | apply below_alloc | apply pw_below_drewN | apply below_drew1) | exact HB.out)))); have n2_ := Aside0.mk (below_step (by repeat (first | (with_reducible first | exact HB.out | apply below_alloc | apply pw_below_drewN | apply below_drew1) | exact HB.out)) hb); clear HO103; clear HB; have HO103 := n0_; have HO106 := n1_; have HB := n2_; clear n0_ n1_ n2_; (try clear hb); (try clear hb2); (try clear hk); (try clear hi); (try clear ho0); obtain ⟨Ao30, co30, eo30⟩ := Kd.R_slice HO106.out; subst eo30; have p107 : 0 ≤ (0 : Int) := (by omega); have q107 : 0 < (t104.length : Int) := of_decide_eq_true (by first | (with_reducible assumption) | assumption); obtain ⟨ad107, e107, hx107_0, hx107_1, hx107_2⟩ := at_T34 (Kd.R_reads' HO106.out).2.2 0 p107 q107; cases e107; have qi107 : (0 < t104.length) = True := eq_true (by omega); (try rw [show ((0 : Int)).toNat = 0 from rfl] at hx107_0); (try rw [show 0 * 3 = 0 from rfl] at hx107_0); (try rw [Addr.add_zero'] at hx107_0); (try rw [show ((0 : Int)).toNat = 0 from rfl] at hx107_1); (try rw [show 0 * 3 = 0 from rfl] at hx107_1); (try rw [Addr.add_zero'] at hx107_1); (try rw [show ((0 : Int)).toNat = 0 from rfl] at hx107_2); (try rw [show 0 * 3 = 0 from rfl] at hx107_2); (try rw [Addr.add_zero'] at hx107_2); replace p107 := eq_true p107; replace q107 := eq_true q107; have p108 : 0 ≤ (1 : Int) := (by omega); have q108 : 1 < (t104.length : Int) := of_decide_eq_true (by first | (with_reducible assumption) | assumption); obtain ⟨ad108, e108, hx108_0, hx108_1, hx108_2⟩ := at_T34 (Kd.R_reads' HO106.out).2.2 1 p108 q108; obtain rfl : ad107 = ad108 := (by injection e108); (try simp only [show (1 : Int).toNat = 1 from rfl, Nat.reduceMul, Nat.reduceEqDiff, Go.Addr.add, ↓reduceIte] at hx108_0); (try simp only [show (1 : Int).toNat = 1 from rfl, Nat.reduceMul, Nat.reduceEqDiff, Go.Addr.add, ↓reduceIte] at hx108_1); (try simp only [show (1 : Int).toNat = 1 from rfl, Nat.reduceMul, Nat.reduceEqDiff, Go.Addr.add, ↓reduceIte] at hx108_2); have qi108 : (1 < t104.length) = True := eq_true (by omega); (try rw [show ((1 : Int)).toNat = 1 from rfl] at hx108_0); (try rw [show 1 * 3 = 3 from rfl] at hx108_0); (try rw [show ((1 : Int)).toNat = 1 from rfl] at hx108_1); (try rw [show 1 * 3 = 3 from rfl] at hx108_1); (try rw [show ((1 : Int)).toNat = 1 from rfl] at hx108_2); (try rw [show 1 * 3 = 3 from rfl] at hx108_2); replace p108 := eq_true p108; replace q108 := eq_true q108))
            go_ret
            exact ⟨by first | rfl | (simp [errW_none, errW_some] <;> rfl) | (simp [*, errW_none, errW_some] <;> rfl), by repeat (first | (with_reducible first | exact HB.out | apply below_alloc | apply pw_below_drewN | apply below_drew1) | exact HB.out)⟩
        · rw [if_neg c5] at H
          exact absurd H (by simp)
      · rw [if_neg c4] at H
        have c4b0 : (((rd_T34 t104 0).f0) == 0) = false := beq_eq_false_iff_ne.mpr c4
        have c4b1 : (((rd_T34 t104 0).f0) != 0) = true := bne_iff_ne.mpr c4
        obtain rfl := Option.some.inj H
        go_enter Try.func19, Try.ntmps19
        go_wp2_with (first | ((with_reducible refine gate_dst (N := 2) rfl ?_); refine Kd.R_lit (Kd.int .i64) _ 3 ?hg (N := 2) ?hd (xs := ([(-1), 0, 0, 1] : List Int)) (inner := [.int .i64 (-1), .int .i64 0, .int .i64 0, .int .i64 1]) (ok := fun _ => True) (okp := fun _ => True) ?hr ?hp (fun _ hk => hk) trivial (Below.refl _ _) (Nat.le_refl _) (by simp) ?_; (case hd => rfl); (case hg => rfl); (case hr => first | (go_simp; done) | (go_simp; rfl)); (case hp => exact (Reps.one (show Kd.M (Kd.int .i64) _ _ _ (-1) [.int .i64 (-1)] from rfl) (Reps.one (show Kd.M (Kd.int .i64) _ _ _ 0 [.int .i64 0] from rfl) (Reps.one (show Kd.M (Kd.int .i64) _ _ _ 0 [.int .i64 0] from rfl) (Reps.one (show Kd.M (Kd.int .i64) _ _ _ 1 [.int .i64 1] from rfl) (Reps.none _ _)))))); intro v102 w31 ho32 hb hg_ hnew_; clear hg_ hnew_; (first | rw [← Ny101.out] at ho32 | (simp only [Int.reduceToNat] at ho32; rw [← Ny101.out] at ho32)); have n0_ := Aside0.mk (Kd.R_lower ho32 (below_size (by repeat (first | (with_reducible first | exact HB.out | apply below_alloc | apply pw_below_drewN | apply below_drew1) | exact HB.out)))); have n1_ := Aside0.mk (below_step (by repeat (first | (with_reducible first | exact HB.out | apply below_alloc | apply pw_below_drewN | apply below_drew1) | exact HB.out)) hb); clear HB; have HO103 := n0_; have HB := n1_; clear n0_ n1_; clear hb ho32; obtain ⟨Ao33, co33, eo33⟩ := Kd.R_slice HO103.out; subst eo33) | ((with_reducible refine gate_callee (f := 21) rfl ?_); refine goesL_ (some 3) rfl rfl Try.func21 (by kernel_rfl) rfl #[.slice Ao33 y101.length co33] rfl (by (try simp only [List.map_toArray, List.map_cons, List.map_nil]); first | done | rfl | (simp only [List.length_drop, List.length_take]; rfl)) ?_; (with_reducible refine (forest_Row.calls k _ _ y101 t104 _ ?side1 ?side2 A1.out).mono ?_); (case side1 => repeat (first | exact (Kd.R_reads' HO103.out).2.2 | (with_reducible refine Kd.C_alloc ?_ _) | (with_reducible refine Kd.C_drewN ?_ _) | (with_reducible refine Kd.C_drew ?_))); (case side2 => exact (Kd.R_reads' HO103.out).2.1); rintro e w34 ⟨v105, rfl, ho0, hb⟩; refine ⟨_, rfl, ?_⟩; have n0_ := Aside0.mk (Kd.R_below (by (with_reducible repeat (first | apply Kd.R_alloc | apply Kd.R_drewN | apply Kd.R_drew)); exact HO103.out) hb); have n1_ := Aside0.mk (Kd.R_lower ho0 (below_size (by repeat (first | (with_reducible first | exact HB.out | apply below_alloc | apply pw_below_drewN | apply below_drew1) | exact HB.out)))); have n2_ := Aside0.mk (below_step (by repeat (first | (with_reducible first | exact HB.out | apply below_alloc | apply pw_below_drewN | apply below_drew1) | exact HB.out)) hb); clear HO103; clear HB; have HO103 := n0_; have HO106 := n1_; have HB := n2_; clear n0_ n1_ n2_; (try clear hb); (try clear hb2); (try clear hk); (try clear hi); (try clear ho0); obtain ⟨Ao35, co35, eo35⟩ := Kd.R_slice HO106.out; subst eo35; have p107 : 0 ≤ (0 : Int) := (by omega); have q107 : 0 < (t104.length : Int) := of_decide_eq_true (by first | (with_reducible assumption) | assumption); obtain ⟨ad107, e107, hx107_0, hx107_1, hx107_2⟩ := at_T34 (Kd.R_reads' HO106.out).2.2 0 p107 q107; cases e107; have qi107 : (0 < t104.length) = True := eq_true (by omega); (try rw [show ((0 : Int)).toNat = 0 from rfl] at hx107_0); (try rw [show 0 * 3 = 0 from rfl] at hx107_0); (try rw [Addr.add_zero'] at hx107_0); (try rw [show ((0 : Int)).toNat = 0 from rfl] at hx107_1); (try rw [show 0 * 3 = 0 from rfl] at hx107_1); (try rw [Addr.add_zero'] at hx107_1); (try rw [show ((0 : Int)).toNat = 0 from rfl] at hx107_2); (try rw [show 0 * 3 = 0 from rfl] at hx107_2); (try rw [Addr.add_zero'] at hx107_2); replace p107 := eq_true p107; replace q107 := eq_true q107))
        go_ret
        exact ⟨by first | rfl | (simp [errW_none, errW_some] <;> rfl) | (simp [*, errW_none, errW_some] <;> rfl), by repeat (first | (with_reducible first | exact HB.out | apply below_alloc | apply pw_below_drewN | apply below_drew1) | exact HB.out)⟩
    · rw [if_neg c3] at H
      exact absurd H (by simp)
  · rw [if_neg c2] at H
    have c2b0 : ((t104.length : Int) == 4) = false := beq_eq_false_iff_ne.mpr c2
    have c2b1 : ((t104.length : Int) != 4) = true := bne_iff_ne.mpr c2
    obtain rfl := Option.some.inj H
    go_enter Try.func19, Try.ntmps19
    go_wp2_with (first | ((with_reducible refine gate_dst (N := 2) rfl ?_); refine Kd.R_lit (Kd.int .i64) _ 3 ?hg (N := 2) ?hd (xs := ([(-1), 0, 0, 1] : List Int)) (inner := [.int .i64 (-1), .int .i64 0, .int .i64 0, .int .i64 1]) (ok := fun _ => True) (okp := fun _ => True) ?hr ?hp (fun _ hk => hk) trivial (Below.refl _ _) (Nat.le_refl _) (by simp) ?_; (case hd => rfl); (case hg => rfl); (case hr => first | (go_simp; done) | (go_simp; rfl)); (case hp => exact (Reps.one (show Kd.M (Kd.int .i64) _ _ _ (-1) [.int .i64 (-1)] from rfl) (Reps.one (show Kd.M (Kd.int .i64) _ _ _ 0 [.int .i64 0] from rfl) (Reps.one (show Kd.M (Kd.int .i64) _ _ _ 0 [.int .i64 0] from rfl) (Reps.one (show Kd.M (Kd.int .i64) _ _ _ 1 [.int .i64 1] from rfl) (Reps.none _ _)))))); intro v102 w36 ho37 hb hg_ hnew_; clear hg_ hnew_; (first | rw [← Ny101.out] at ho37 | (simp only [Int.reduceToNat] at ho37; rw [← Ny101.out] at ho37)); have n0_ := Aside0.mk (Kd.R_lower ho37 (below_size (by repeat (first | (with_reducible first | exact HB.out | apply below_alloc | apply pw_below_drewN | apply below_drew1) | exact HB.out)))); have n1_ := Aside0.mk (below_step (by repeat (first | (with_reducible first | exact HB.out | apply below_alloc | apply pw_below_drewN | apply below_drew1) | exact HB.out)) hb); clear HB; have HO103 := n0_; have HB := n1_; clear n0_ n1_; clear hb ho37; obtain ⟨Ao38, co38, eo38⟩ := Kd.R_slice HO103.out; subst eo38) | ((with_reducible refine gate_callee (f := 21) rfl ?_); refine goesL_ (some 3) rfl rfl Try.func21 (by kernel_rfl) rfl #[.slice Ao38 y101.length co38] rfl (by (try simp only [List.map_toArray, List.map_cons, List.map_nil]); first | done | rfl | (simp only [List.length_drop, List.length_take]; rfl)) ?_; (with_reducible refine (forest_Row.calls k _ _ y101 t104 _ ?side1 ?side2 A1.out).mono ?_); (case side1 => repeat (first | exact (Kd.R_reads' HO103.out).2.2 | (with_reducible refine Kd.C_alloc ?_ _) | (with_reducible refine Kd.C_drewN ?_ _) | (with_reducible refine Kd.C_drew ?_))); (case side2 => exact (Kd.R_reads' HO103.out).2.1); rintro e w39 ⟨v105, rfl, ho0, hb⟩; refine ⟨_, rfl, ?_⟩; have n0_ := Aside0.mk (Kd.R_below (by (with_reducible repeat (first | apply Kd.R_alloc | apply Kd.R_drewN | apply Kd.R_drew)); exact HO103.out) hb); have n1_ := Aside0.mk (Kd.R_lower ho0 (below_size (by repeat (first | (with_reducible first | exact HB.out | apply below_alloc | apply pw_below_drewN | apply below_drew1) | exact HB.out)))); have n2_ := Aside0.mk (below_step (by repeat (first | (with_reducible first | exact HB.out | apply below_alloc | apply pw_below_drewN | apply below_drew1) | exact HB.out)) hb); clear HO103; clear HB; have HO103 := n0_; have HO106 := n1_; have HB := n2_; clear n0_ n1_ n2_; (try clear hb); (try clear hb2); (try clear hk); (try clear hi); (try clear ho0); obtain ⟨Ao40, co40, eo40⟩ := Kd.R_slice HO106.out; subst eo40))
    go_ret
    exact ⟨by first | rfl | (simp [errW_none, errW_some] <;> rfl) | (simp [*, errW_none, errW_some] <;> rfl), by repeat (first | (with_reducible first | exact HB.out | apply below_alloc | apply pw_below_drewN | apply below_drew1) | exact HB.out)⟩

/-! ### merkhetlaw11_ForestOnce: function 14 -/
def merkhetlaw11_ForestOnce_r (row : List S34) (j : Nat) : S34 := rd_T34 row (j : Int)
def merkhetlaw11_ForestOnce_c (p : List Int) (row : List S34) (n i : Nat) : Prop :=
  (0 ≤ (merkhetlaw11_ForestOnce_r row i).f0 ∧ (merkhetlaw11_ForestOnce_r row i).f0 < (n : Int)) ∧ rd p (merkhetlaw11_ForestOnce_r row i).f0 = (merkhetlaw11_ForestOnce_r row i).f2 ∧ (∀ j, j < i → (merkhetlaw11_ForestOnce_r row j).f0 ≠ (merkhetlaw11_ForestOnce_r row i).f0) ∧ (0 ≤ (merkhetlaw11_ForestOnce_r row i).f1 ∧ (merkhetlaw11_ForestOnce_r row i).f1 ≤ 1000000) ∧
  (((merkhetlaw11_ForestOnce_r row i).f2 < 0 ∧ (merkhetlaw11_ForestOnce_r row i).f1 = 0) ∨ (0 ≤ (merkhetlaw11_ForestOnce_r row i).f2 ∧ (merkhetlaw11_ForestOnce_r row i).f2 < (n : Int) ∧ ∃ j, j < i ∧ (merkhetlaw11_ForestOnce_r row j).f0 = (merkhetlaw11_ForestOnce_r row i).f2 ∧ (merkhetlaw11_ForestOnce_r row j).f1 = (merkhetlaw11_ForestOnce_r row i).f1 - 1 ∧ ∀ m, j < m → m < i → (merkhetlaw11_ForestOnce_r row j).f1 < (merkhetlaw11_ForestOnce_r row m).f1))
def merkhetlaw11_ForestOnce_at (row : List S34) (i n : Nat) (at_ : List Int) : Prop := (∀ a : Nat, a < n → (∀ j, j < i → (merkhetlaw11_ForestOnce_r row j).f0 ≠ (a : Int)) → at_.getD a 0 = -1) ∧ ∀ j, j < i → at_.getD (merkhetlaw11_ForestOnce_r row j).f0.toNat 0 = (j : Int)
def merkhetlaw11_ForestOnce_fix (k : Nat) : Option Bool := (merkhetlaw11_fixed.f k).bind fun y => if y = true then some true else none
noncomputable instance (p : List Int) (row : List S34) (n : Nat) : Decidable (row.length = n ∧ ∀ i, i < row.length → merkhetlaw11_ForestOnce_c p row n i) := Classical.propDecidable _
noncomputable def merkhetlaw11_ForestOnce.f (k : Nat) (l0 : List S37) : Option Bool :=
  if (l0.length : Int) > 60 then merkhetlaw11_ForestOnce_fix k
  else (parent_Of.f k l0).bind fun p => if p.length = l0.length then (forest_Row.f k p).bind fun row => if row.length = l0.length ∧ ∀ i, i < row.length → merkhetlaw11_ForestOnce_c p row l0.length i then merkhetlaw11_ForestOnce_fix k else none else none
theorem merkhetlaw11_ForestOnce_fix_mono (k : Nat) : LeO (merkhetlaw11_ForestOnce_fix k) (merkhetlaw11_ForestOnce_fix (k + 1)) := LeO.bind (merkhetlaw11_fixed.mono _) (fun _ => LeO.refl _)
theorem merkhetlaw11_ForestOnce.mono : ∀ a0 k, LeO (merkhetlaw11_ForestOnce.f k a0) (merkhetlaw11_ForestOnce.f (k + 1) a0) := by
  intro a0 k
  exact LeO.ite (merkhetlaw11_ForestOnce_fix_mono k) (LeO.bind (parent_Of.mono _ _) (fun _ => LeO.ite (LeO.bind (forest_Row.mono _ _) (fun _ => LeO.ite (merkhetlaw11_ForestOnce_fix_mono k) (LeO.refl _))) (LeO.refl _)))
theorem merkhetlaw11_ForestOnce_if {c : Prop} [Decidable c] {o : Option Bool} {r : Bool} (h : (if c then o else none) = some r) : c ∧ o = some r := by
  by_cases hc : c
  · exact ⟨hc, by simpa [hc] using h⟩
  · exact absurd h (by simp [hc])
theorem merkhetlaw11_ForestOnce_set (l : List Int) (i j : Nat) (v : Int) (h : i < l.length) : (l.set i v).getD j 0 = if j = i then v else l.getD j 0 := by
  rw [List.getD_eq_getElem?_getD, List.getD_eq_getElem?_getD]
  by_cases e : j = i
  · subst e
    rw [List.getElem?_set_self h, if_pos rfl]; rfl
  · rw [List.getElem?_set_ne (fun x => e x.symm), if_neg e]
theorem merkhetlaw11_ForestOnce_at_step {row : List S34} {i n : Nat} {at_ : List Int} (h : merkhetlaw11_ForestOnce_at row i n at_) (hl : at_.length = n) (h0 : 0 ≤ (merkhetlaw11_ForestOnce_r row i).f0) (h1 : (merkhetlaw11_ForestOnce_r row i).f0 < (n : Int)) (hne : ∀ j, j < i → (merkhetlaw11_ForestOnce_r row j).f0 ≠ (merkhetlaw11_ForestOnce_r row i).f0) (hp : ∀ j, j < i → 0 ≤ (merkhetlaw11_ForestOnce_r row j).f0) : merkhetlaw11_ForestOnce_at row (i + 1) n (at_.set (merkhetlaw11_ForestOnce_r row i).f0.toNat (i : Int)) := by
  refine ⟨fun a ha hj => ?_, fun j hj => ?_⟩
  · rw [merkhetlaw11_ForestOnce_set _ _ _ _ (by omega), if_neg (by have := hj i (by omega); omega)]
    exact h.1 a ha (fun j hji => hj j (by omega))
  · rw [merkhetlaw11_ForestOnce_set _ _ _ _ (by omega)]
    by_cases e : j = i
    · subst e; rw [if_pos rfl]
    · have h2 := hne j (by omega)
      have h3 := hp j (by omega)
      rw [if_neg (by omega)]
      exact h.2 j (by omega)
set_option maxHeartbeats 8000000 in
set_option maxRecDepth 100000 in
theorem merkhetlaw11_ForestOnce.calls (k : Nat) (A0 : Option Addr) (c0 : Nat) (l0 : List S37) (r : Bool) (w : World) (hr0 : Kd.C k37 w A0 l0.length l0) (hc0 : l0.length ≤ c0) (h : merkhetlaw11_ForestOnce.f k l0 = some r) :
    Calls Try.prog 14 #[.slice A0 l0.length c0] w fun e w' => e = .returned (.bool r) ∧ Below w.heap.size w w' := by
  have hui_ := Try.underlying34
  have HR := Aside0.mk hr0
  have HC := Aside0.mk hc0
  clear hr0 hc0
  unfold merkhetlaw11_ForestOnce.f at h
  by_cases c : (l0.length : Int) > 60
  · rw [if_pos c] at h
    obtain ⟨y, hy, h'⟩ := Option.bind_eq_some_iff.mp h
    obtain ⟨rfl, h2⟩ := merkhetlaw11_ForestOnce_if h'
    obtain rfl := Option.some.inj h2
    have HY := Aside0.mk hy
    have cb := decide_eq_true c
    clear h h' h2 hy c
    go_enter Try.func14, Try.ntmps14
    go_wp2_with (fail)
    refine (merkhetlaw11_fixed.calls k true _ HY.out).mono ?_
    rintro e w2 ⟨rfl, hb⟩
    have HB2 := Aside0.mk hb
    clear hb
    go_wp2_with (fail)
    go_ret
    exact ⟨rfl, HB2.out⟩
  rw [if_neg c] at h
  have cb := decide_eq_false c
  have hn60 : l0.length ≤ 60 := by omega
  obtain ⟨p, hp, h1⟩ := Option.bind_eq_some_iff.mp h
  obtain ⟨hpl, h2⟩ := merkhetlaw11_ForestOnce_if h1
  obtain ⟨row, hrow, h3⟩ := Option.bind_eq_some_iff.mp h2
  obtain ⟨⟨hrl, hcnd⟩, h4⟩ := merkhetlaw11_ForestOnce_if h3
  obtain ⟨y, hy, h5⟩ := Option.bind_eq_some_iff.mp h4
  obtain ⟨rfl, h6⟩ := merkhetlaw11_ForestOnce_if h5
  obtain rfl := Option.some.inj h6
  have HP := Aside0.mk hp
  have HPL := Aside0.mk hpl
  have HROW := Aside0.mk hrow
  have HRL := Aside0.mk hrl
  have HCND := Aside0.mk hcnd
  have HY := Aside0.mk hy
  have hlen : ((p.length : Int) != (l0.length : Int)) = false := by rw [hpl]; simp
  have hlen2 : ((row.length : Int) != (l0.length : Int)) = false := by rw [hrl]; simp
  have hmk := print_make (P := Try.prog) 25 3 .i64 8 Try.underlying25 info3 (by decide) l0.length (by omega)
  clear h h1 h2 h3 h4 h5 h6 hp hpl hrow hrl hcnd hy c
  go_enter Try.func14, Try.ntmps14
  go_wp2_with (fail)
  refine (parent_Of.calls k A0 c0 l0 p _ HR.out HC.out HP.out).mono ?_
  rintro e w3 ⟨v3, rfl, hO, hb3⟩
  obtain ⟨Ap, cp, rfl⟩ := Kd.R_slice hO
  have hrd := Kd.R_reads' hO
  have HPC3 := Aside0.mk hrd.2.2
  have HCP := Aside0.mk hrd.2.1
  have HB3 := Aside0.mk hb3
  clear hrd hO hb3
  go_wp2_with (fail)
  refine (forest_Row.calls k Ap cp p row _ HPC3.out HCP.out HROW.out).mono ?_
  rintro e w4 ⟨v4, rfl, hO, hb4⟩
  obtain ⟨Ar, cr, rfl⟩ := Kd.R_slice hO
  have hrd := Kd.R_reads' hO
  have HRC := Aside0.mk hrd.2.2
  have HCR := Aside0.mk hrd.2.1
  have HPC := Aside0.mk (Kd.C_below HPC3.out hb4)
  have HB4 := Aside0.mk (below_step HB3.out hb4)
  clear hrd hO hb4
  have HM4 := Aside0.mk (Go.Proofs.Ytcgjplolehhpjaa.H.rowI_made w4 3 l0.length)
  have HBM := Aside0.mk (below_alloc (Below.refl w4.heap.size w4) (.cells (madeCells #[.int .i64 0] l0.length) 3))
  go_wp2_with (fail)
  clear hmk
  generalize hg : w4.heap.size = g at HM4 ⊢
  have HG := Aside0.mk (Nat.le_of_eq hg)
  clear hg
  go_loopg [35] l0.length (fun d v35 wr => ∃ (i : Nat) (at_ : List Int), i + d = l0.length ∧ v35 = .int .i64 i ∧ Aside0 (at_.length = l0.length) ∧ Aside0 (∀ j, j < i → at_.getD j 0 = -1) ∧ Aside0 (Below w4.heap.size w4 wr) ∧ Aside0 (Go.Proofs.Ytcgjplolehhpjaa.H.rowI wr g 3 at_))
  case atStart => exact ⟨0, List.replicate l0.length 0, by omega, rfl, ⟨by simp⟩, ⟨fun j hj => absurd hj (by omega)⟩, HBM, HM4⟩
  case round =>
    clear HM4 HBM
    obtain ⟨i, at_, hi, rfl, HL, HV, HB, HM⟩ := hrel
    by_cases hlt : i < l0.length
    · have hltz : (i : Int) < (l0.length : Int) := by omega
      have hq := Go.Proofs.Ytcgjplolehhpjaa.H.rowI_rd HM.out (i : Int) (by omega) (by have := HL.out; omega)
      have hfz := Go.Proofs.Ytcgjplolehhpjaa.H.rowI_frozen HM.out i
      simp only [Int.toNat_natCast] at hq
      have HMn := Aside0.mk (Go.Proofs.Ytcgjplolehhpjaa.H.rowI_set HM.out i (-1))
      have HBn := Aside0.mk (show Below w4.heap.size w4 (wr.setCell ⟨g, i, none⟩ (.int .i64 (-1))) from below_set HB.out HG.out)
      go_wp2_with (fail)
      go_roundg (l0.length - (i + 1))
      case measure => omega
      case rel => exact ⟨i + 1, at_.set i (-1), by omega, by have hrl_ := HRL.out; first | go_num | rfl, ⟨by rw [List.length_set]; exact HL.out⟩, ⟨fun j hj => by
        rw [merkhetlaw11_ForestOnce_set _ _ _ _ (by have := HL.out; omega)]
        by_cases e : j = i
        · rw [if_pos e]
        · rw [if_neg e]; exact HV.out j (by omega)⟩, HBn, HMn⟩
    · obtain rfl : i = l0.length := by omega
      have HA0 := Aside0.mk (show merkhetlaw11_ForestOnce_at row 0 l0.length at_ from ⟨fun a ha _ => HV.out a ha, fun j hj => absurd hj (by omega)⟩)
      clear HV
      go_wp2_with (fail)
      go_loopg [44] row.length (fun d v44 wr => ∃ (i : Nat) (at_ : List Int), i + d = row.length ∧ v44 = .int .i64 i ∧ Aside0 (at_.length = l0.length) ∧ Aside0 (merkhetlaw11_ForestOnce_at row i l0.length at_) ∧ Aside0 (Below w4.heap.size w4 wr) ∧ Aside0 (Go.Proofs.Ytcgjplolehhpjaa.H.rowI wr g 3 at_))
      case atStart => exact ⟨0, at_, by omega, rfl, HL, HA0, HB, HM⟩
      case round =>
        clear HL HA0 HB HM
        obtain ⟨i, at_, hi, rfl, HL, HA, HB, HM⟩ := hrel
        by_cases hlt : i < row.length
        · have hltz : (i : Int) < (row.length : Int) := by omega
          have hrl := HRL.out
          have hcr : i ≤ cr := by have := HCR.out; omega
          have hcrz : (i : Int) ≤ (cr : Int) := by omega
          have hi60 : i < 60 := by omega
          clear hrl
          have hcz := HCND.out i hlt
          have hpos : ∀ j, j < i → 0 ≤ (merkhetlaw11_ForestOnce_r row j).f0 := fun j hj => (HCND.out j (by omega)).1.1
          obtain ⟨⟨x0, x1⟩, hpx, hne, ⟨d0, d1⟩, hcase⟩ := hcz
          have HAn := Aside0.mk (merkhetlaw11_ForestOnce_at_step HA.out HL.out x0 x1 hne hpos)
          have hat := HA.out.1 (merkhetlaw11_ForestOnce_r row i).f0.toNat (by omega) (fun j hj => by have := hne j hj; omega)
          obtain ⟨ar, e, y0, y1, y2⟩ := at_T34 HRC.out (i : Int) (by omega) hltz
          cases e
          have HX0 := Aside0.mk y0
          replace y0 := (HB.out.cell (World.block_lt_of_cell? w4 _ y0)).trans y0
          replace y1 := (HB.out.cell (World.block_lt_of_cell? w4 _ y1)).trans y1
          replace y2 := (HB.out.cell (World.block_lt_of_cell? w4 _ y2)).trans y2
          simp only [Int.toNat_natCast] at y0 y1 y2
          obtain ⟨x, hx⟩ : ∃ x, merkhetlaw11_ForestOnce_r row i = x := ⟨_, rfl⟩
          rw [show rd_T34 row (i : Int) = x from hx] at y0 y1 y2
          rw [hx] at x0 x1 hpx d0 d1 hat hcase HAn
          have hne' : ∀ j, j < i → (merkhetlaw11_ForestOnce_r row j).f0 ≠ x.f0 := fun j hj => hx ▸ hne j hj
          have HNE := Aside0.mk hne'
          have HCASE := Aside0.mk hcase
          clear hne hne' hcase hx HX0 hpos
          obtain ⟨ap, e, hpc⟩ := Kd.at_int HPC.out x.f0 x0 (by have := HPL.out; omega)
          cases e
          rw [hpx] at hpc
          replace hpc := (HB.out.cell (World.block_lt_of_cell? w4 _ hpc)).trans hpc
          have hq := Go.Proofs.Ytcgjplolehhpjaa.H.rowI_cell HM.out x.f0 x0 (by have := HL.out; omega)
          rw [hat] at hq
          have hgl := Go.Proofs.Ytcgjplolehhpjaa.H.rowI_lt HM.out
          have hp' : ∀ o : Obj, (wr.alloc o).cell? (ap.add x.f0.toNat) = some (.int .i64 x.f2) := fun o => ((below_alloc (Below.refl wr.heap.size wr) o).cell (World.block_lt_of_cell? wr _ (by simpa using hpc))).trans (by simpa using hpc)
          have hBO := below_alloc (Below.refl wr.heap.size wr) (.cells #[.int .i64 x.f0, .int .i64 x.f1, .int .i64 x.f2] 34 (0, 0))
          have HK := Aside0.mk (blk_new wr (.cells #[.int .i64 x.f0, .int .i64 x.f1, .int .i64 x.f2] 34 (0, 0)))
          have HBW := Aside0.mk (below_alloc HB.out (.cells #[.int .i64 x.f0, .int .i64 x.f1, .int .i64 x.f2] 34 (0, 0)))
          have HMW := Aside0.mk (Go.Proofs.Ytcgjplolehhpjaa.H.rowI_same HM.out (hBO.block _ hgl))
          have hqW := (hBO.cell (World.block_lt_of_cell? wr _ hq)).trans hq
          have hfW := Go.Proofs.Ytcgjplolehhpjaa.H.rowI_frozen HMW.out x.f0.toNat
          have hpW := (hBO.cell (World.block_lt_of_cell? wr _ hpc)).trans hpc
          have hBg : wr.heap.size ≠ g := by omega
          go_wp2_with (fail)
          clear y0 y1 y2 hp' hBO hgl hq hpc
          generalize hW : wr.alloc (.cells #[.int .i64 x.f0, .int .i64 x.f1, .int .i64 x.f2] 34 (0, 0)) = W at HK HBW HMW hqW hfW hpW ⊢
          generalize wr.heap.size = B at HK hBg ⊢
          clear hW
          have k0 : W.cell? ⟨B, 0, none⟩ = some (.int .i64 x.f0) := (blk_cell HK.out 0).trans rfl
          have k1 : W.cell? ⟨B, 1, none⟩ = some (.int .i64 x.f1) := (blk_cell HK.out 1).trans rfl
          have k2 : W.cell? ⟨B, 2, none⟩ = some (.int .i64 x.f2) := (blk_cell HK.out 2).trans rfl
          have t0 : decide (x.f0 < 0) = false := decide_eq_false (by omega)
          have t1 : decide ((l0.length : Int) ≤ x.f0) = false := decide_eq_false (by omega)
          have t2 : decide ((0 : Int) ≤ -1) = false := by decide
          have t3 : (x.f2 != x.f2) = false := by simp
          have x0c := eq_true x0
          have x1c := eq_true x1
          have x1p := eq_true (show x.f0 < (p.length : Int) by have := HPL.out; omega)
          go_quiet (fail)
          clear k0 k1 k2
          have HCSE := HCASE.out
          rcases HCSE with ⟨f2n, f1z⟩ | ⟨f20, f2l, j, hji, hj0, hj1, hjm⟩
          · have u0 : decide (x.f2 < 0) = true := decide_eq_true f2n
            have u1 : (x.f1 != 0) = false := by rw [f1z]; rfl
            have k0 : W.cell? ⟨B, 0, none⟩ = some (.int .i64 x.f0) := (blk_cell HK.out 0).trans rfl
            have k1 : W.cell? ⟨B, 1, none⟩ = some (.int .i64 x.f1) := (blk_cell HK.out 1).trans rfl
            have k2 : W.cell? ⟨B, 2, none⟩ = some (.int .i64 x.f2) := (blk_cell HK.out 2).trans rfl
            have HMn := Aside0.mk (Go.Proofs.Ytcgjplolehhpjaa.H.rowI_set (Go.Proofs.Ytcgjplolehhpjaa.H.rowI_drewN HMW.out nq) x.f0.toNat (i : Int))
            have HBn := Aside0.mk (show Below w4.heap.size w4 ((W.drewN nq).setCell ⟨g, x.f0.toNat, none⟩ (.int .i64 (i : Int))) from below_set (pw_below_drewN HBW.out nq) HG.out)
            go_wp2_with (fail)
            go_roundg (row.length - (i + 1))
            case measure => omega
            case rel => exact ⟨i + 1, _, by omega, by have hrl_ := HRL.out; first | go_num | rfl, ⟨by rw [List.length_set]; exact HL.out⟩, HAn, HBn, HMn⟩
          · have u0 : decide (x.f2 < 0) = false := decide_eq_false (by omega)
            have k0 : W.cell? ⟨B, 0, none⟩ = some (.int .i64 x.f0) := (blk_cell HK.out 0).trans rfl
            have k1 : W.cell? ⟨B, 1, none⟩ = some (.int .i64 x.f1) := (blk_cell HK.out 1).trans rfl
            have k2 : W.cell? ⟨B, 2, none⟩ = some (.int .i64 x.f2) := (blk_cell HK.out 2).trans rfl
            have HM6 := Aside0.mk (Go.Proofs.Ytcgjplolehhpjaa.H.rowI_set (Go.Proofs.Ytcgjplolehhpjaa.H.rowI_drewN HMW.out nq) x.f0.toNat (i : Int))
            have HB6 := Aside0.mk (show Below w4.heap.size w4 ((W.drewN nq).setCell ⟨g, x.f0.toNat, none⟩ (.int .i64 (i : Int))) from below_set (pw_below_drewN HBW.out nq) HG.out)
            have HK6 := Aside0.mk (blk_far (blk_drewN HK.out nq) (p := ⟨g, x.f0.toNat, none⟩) hBg (.int .i64 (i : Int)))
            have hk92 := Go.Proofs.Ytcgjplolehhpjaa.H.rowI_cell HM6.out x.f2 f20 (by rw [List.length_set]; have := HL.out; omega)
            have hv92 := HAn.out.2 j (by omega)
            rw [hj0] at hv92
            rw [hv92] at hk92
            have f2c := eq_true f20
            have f2d := eq_true f2l
            go_wp2_with (fail)
            clear hk92 hv92 k0 k1 k2 hqW hfW hpW HMW HK HBW
            generalize ((W.drewN nq).setCell ⟨g, x.f0.toNat, none⟩ (.int .i64 (i : Int))) = W6 at HM6 HB6 HK6 ⊢
            obtain ⟨ar2, e, z0, z1, z2⟩ := at_T34 HRC.out (j : Int) (by omega) (by omega)
            cases e
            have Z1 := Aside0.mk z1
            replace z1 := (HB6.out.cell (World.block_lt_of_cell? w4 _ z1)).trans z1
            simp only [Int.toNat_natCast] at z1
            obtain ⟨y, hy⟩ : ∃ y, merkhetlaw11_ForestOnce_r row j = y := ⟨_, rfl⟩
            rw [show rd_T34 row (j : Int) = y from hy] at z1
            rw [hy] at hj1
            have HYJ := Aside0.mk hy
            have HJM := Aside0.mk hjm
            clear z0 z2 hjm hy
            have k0 : W6.cell? ⟨B, 0, none⟩ = some (.int .i64 x.f0) := (blk_cell HK6.out 0).trans rfl
            have k1 : W6.cell? ⟨B, 1, none⟩ = some (.int .i64 x.f1) := (blk_cell HK6.out 1).trans rfl
            have k2 : W6.cell? ⟨B, 2, none⟩ = some (.int .i64 x.f2) := (blk_cell HK6.out 2).trans rfl
            have v0 : decide ((j : Int) < 0) = false := decide_eq_false (by omega)
            have v1 : (y.f1 != wrap64 (x.f1 - 1)) = false := by rw [show wrap64 (x.f1 - 1) = x.f1 - 1 by unfold wrap64; omega, hj1]; simp
            have v2 := eq_true (show (j : Int) < (row.length : Int) by omega)
            have hji1 : j + 1 ≤ i := hji
            have hji2 : (j : Int) + 1 ≤ (i : Int) := by omega
            have hcne : ¬ cr = j + 1 := by have := HCR.out; omega
            go_quiet (fail)
            go_wp2_with (fail)
            have HM7 := Aside0.mk (Go.Proofs.Ytcgjplolehhpjaa.H.rowI_drewN HM6.out nq)
            have HB7 := Aside0.mk (show Below w4.heap.size w4 (W6.drewN nq) from pw_below_drewN HB6.out nq)
            clear z1 k0 k1 k2 HM6 HB6 HK6
            generalize W6.drewN nq = W7 at HM7 HB7 ⊢
            go_loopg [112] (i - (j + 1)) (fun d v112 wr => ∃ (m : Nat), m + d = i - (j + 1) ∧ v112 = .int .i64 m ∧ Aside0 (Below W7.heap.size W7 wr))
            case atStart => exact ⟨0, by omega, rfl, ⟨Below.refl _ _⟩⟩
            case round =>
              obtain ⟨m, hm, rfl, HBq⟩ := hrel
              have HBV := Aside0.mk (below_step HB7.out HBq.out)
              by_cases hmt : m < i - (j + 1)
              · have hmz : (m : Int) < ((i - (j + 1) : Nat) : Int) := by omega
                obtain ⟨ar3, e, q0, q1, q2⟩ := at_T34 HRC.out ((j + 1 + m : Nat) : Int) (by omega) (by omega)
                cases e
                replace q0 := (HBV.out.cell (World.block_lt_of_cell? w4 _ q0)).trans q0
                replace q1 := (HBV.out.cell (World.block_lt_of_cell? w4 _ q1)).trans q1
                replace q2 := (HBV.out.cell (World.block_lt_of_cell? w4 _ q2)).trans q2
                have ha : ar.add ((((j + 1 + m : Nat) : Int).toNat) * 3) = (ar.add ((j + 1) * 3)).add (m * 3) := by rw [Int.toNat_natCast]; simp [Addr.add, Nat.add_mul, Nat.add_assoc]
                rw [ha] at q0 q1 q2
                have hlm := HJM.out (j + 1 + m) (by omega) (by omega)
                rw [HYJ.out] at hlm
                obtain ⟨z, hz⟩ : ∃ z, merkhetlaw11_ForestOnce_r row (j + 1 + m) = z := ⟨_, rfl⟩
                rw [show rd_T34 row ((j + 1 + m : Nat) : Int) = z from hz] at q0 q1 q2
                rw [hz] at hlm
                clear hz ha
                have z1 := Z1.out
                simp only [Int.toNat_natCast] at z1
                rw [show rd_T34 row (j : Int) = y from HYJ.out] at z1
                have hz1 : ∀ o : Obj, (wr.alloc o).cell? ⟨(ar.add (j * 3)).block, (ar.add (j * 3)).off + 1, none⟩ = some (.int .i64 y.f1) := fun o => ((below_alloc HBV.out o).cell (World.block_lt_of_cell? w4 _ z1)).trans z1
                have v3 : decide (z.f1 ≤ y.f1) = false := decide_eq_false (by omega)
                clear z1
                go_wp2_with (fail)
                go_quiet (fail)
                go_wp2_with (fail)
                go_roundg (i - (j + 1) - (m + 1))
                case measure => omega
                case rel => exact ⟨m + 1, by omega, by have hrl_ := HRL.out; first | go_num | rfl, ⟨by first | exact pw_below_drewN (below_alloc HBq.out _) _ | exact below_alloc HBq.out _⟩⟩
              · have hmz : ¬ (m : Int) < ((i - (j + 1) : Nat) : Int) := by omega
                have HMn := Aside0.mk (Go.Proofs.Ytcgjplolehhpjaa.H.rowI_same HM7.out (HBq.out.block _ (Go.Proofs.Ytcgjplolehhpjaa.H.rowI_lt HM7.out)))
                go_wp2_with (fail)
                go_roundg (row.length - (i + 1))
                case measure => omega
                case rel => exact ⟨i + 1, _, by omega, by have hrl_ := HRL.out; first | go_num | rfl, ⟨by rw [List.length_set]; exact HL.out⟩, HAn, HBV, HMn⟩
        · obtain rfl : i = row.length := by omega
          have HBW := Aside0.mk (below_step HB4.out HB.out)
          go_wp2_with (fail)
          refine (merkhetlaw11_fixed.calls k true _ HY.out).mono ?_
          rintro e w6 ⟨rfl, hb6⟩
          have HB6 := Aside0.mk (below_step HBW.out hb6)
          clear hb6
          go_wp2_with (fail)
          go_ret
          exact ⟨rfl, HB6.out⟩

/-- THE ONE PURE STATEMENT of merkhetlaw11_ForestOnce. -/
def merkhetlaw11_ForestOnce.Pure : Prop := ∀ (l0 : List (S37)), l0.length ≤ maxLen → (∀ x0_ ∈ l0, ((Lit.int .u64 x0_.f0).wf = true ∧ (Lit.int .u64 x0_.f1).wf = true ∧ (Lit.int .u64 x0_.f2).wf = true ∧ (Lit.int .u8 x0_.f3).wf = true ∧ x0_.f4.size ≤ maxLen ∧ x0_.f5.size ≤ maxLen ∧ (Lit.int .i64 x0_.f6).wf = true ∧ (Lit.int .i64 x0_.f7).wf = true)) → ∃ k, merkhetlaw11_ForestOnce.f k l0 = some true


end Go.Proofs.Ytcgjplolehhpjaa.K
