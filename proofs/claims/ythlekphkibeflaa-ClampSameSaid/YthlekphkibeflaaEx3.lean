-- WRITTEN FOR THIS CLAIM by wip/tools/mp.py, a program of this project that drives the kit's print; the functions that the print does not take are this project's own texts.
import Derived.Test.YthlekphkibeflaaEx0
import Derived.Test.YthlekphkibeflaaEx1
import Derived.Test.YthlekphkibeflaaEx2
namespace Go.Proofs.Ythlekphkibeflaa.E
open Go.RowKit Go.Proofs.YthlekphkibeflaaW.PrintWords Go.Proofs.YthlekphkibeflaaW.PrintLast Go.Proofs.YthlekphkibeflaaW.PrintMore
attribute [local go_sem] max2_int min2_int max_two min_two max_three min_three max_four min_four   -- for this text's walks alone
set_option linter.unusedVariables false
set_option linter.unusedSimpArgs false

/-! ### forest_Row: function 20 -/
def forest_Row_it (x : Go.Proofs.Ythlekphkibeflaa.H.It3) : S42 := ⟨x.1, x.2.1, x.2.2⟩
def forest_Row.f (k : Nat) (l0 : List Int) : Option (List S42) :=
  (parent_Right.f k l0).bind fun r => if r = true then (if l0.length ≤ 1000000 ∧ Go.Proofs.Ythlekphkibeflaa.H.okB l0 = true then (Go.Proofs.Ythlekphkibeflaa.H.rowK l0 k (-1) 0).bind fun its => if its.length ≤ 1000000 then some (its.map forest_Row_it) else none else none) else some []
theorem forest_Row.mono : ∀ a0 k, LeO (forest_Row.f k a0) (forest_Row.f (k + 1) a0) := by
  intro a0 k
  exact LeO.bind (parent_Right.mono _ _) (fun _ => LeO.ite (LeO.ite (LeO.bind (Go.Proofs.Ythlekphkibeflaa.H.rowK_mono _ _ _ _) (fun _ => LeO.refl _)) (LeO.refl _)) (LeO.refl _))
theorem forest_Row_law : Go.Maps.Keyed Try.prog 3 := Go.Maps.int_keyed Try.underlying3
theorem forest_Row_zero (w : World) : (zeroValue 23).run Try.prog w = .ok (.slice none 0 0) w := by kernel_rfl
structure forest_Row_St (W0 : World) (B3 : Nat) (v : Value) (out : List S42) (W : World) : Prop where
  below : Below W0.heap.size W0 W
  b6 : W.heap[W0.heap.size]? = some (.cells #[v] 39 (0, 0))
  b7 : W.heap[W0.heap.size + 1]? = some (.cells #[.func (.func 32) #[] #[.pointer (some ⟨B3, 0, none⟩), .pointer (some ⟨W0.heap.size, 0, none⟩), .pointer (some ⟨W0.heap.size + 1, 0, none⟩)]] 52 (0, 0))
  row : Kd.R k42 42 W (W0.heap.size + 2) (fun _ => True) v out
set_option maxHeartbeats 8000000 in
set_option maxRecDepth 100000 in
theorem forest_Row_below (W0 : World) (B3 b : Nat) (p : List Int) (hp : Go.Proofs.Ythlekphkibeflaa.H.okP p) (hpl : p.length ≤ 1000000) (h3 : W0.heap[B3]? = some (.cells #[.map (some b)] 51 (0, 0)))
    (hL : ∀ (a : Int), -1 ≤ a → a < (p.length : Int) → ∀ W, Below W0.heap.size W0 W → ∃ A c, (Go.Proofs.Ythlekphkibeflaa.H.kidsI p p.length a).length ≤ c ∧ (Instr.lookup 51 (.map (some b)) (.int .i64 a) false).run Try.prog W = .ok (.slice A (Go.Proofs.Ythlekphkibeflaa.H.kidsI p p.length a).length c) W ∧ Kd.C (Kd.int .i64) W0 A (Go.Proofs.Ythlekphkibeflaa.H.kidsI p p.length a).length (Go.Proofs.Ythlekphkibeflaa.H.kidsI p p.length a)) :
    ∀ (k : Nat) (a : Int) (d : Nat) (its : List Go.Proofs.Ythlekphkibeflaa.H.It3) (v : Value) (out : List S42) (W : World), -1 ≤ a → a < (p.length : Int) → Go.Proofs.Ythlekphkibeflaa.H.rowK p k a d = some its → out.length + its.length ≤ 1000000 → forest_Row_St W0 B3 v out W →
    Calls Try.prog 32 #[.int .i64 a, .int .i64 d, .pointer (some ⟨B3, 0, none⟩), .pointer (some ⟨W0.heap.size, 0, none⟩), .pointer (some ⟨W0.heap.size + 1, 0, none⟩)] W fun e w' => e = .returned (.tuple #[]) ∧ ∃ v', forest_Row_St W0 B3 v' (out ++ its.map forest_Row_it) w' := by
  intro k
  induction k with
  | zero => intro a d its v out W ha0 ha1 h; simp [Go.Proofs.Ythlekphkibeflaa.H.rowK] at h
  | succ k ih =>
    intro a d its v out W ha0 ha1 h hn hs
    by_cases hd : d ≤ 1000000
    case neg => rw [Go.Proofs.Ythlekphkibeflaa.H.rowK, if_neg hd] at h; cases h
    rw [Go.Proofs.Ythlekphkibeflaa.H.rowK, if_pos hd] at h
    obtain ⟨A, c, hc, hrun, hC⟩ := hL a ha0 ha1 W hs.below
    have hkid := Go.Proofs.Ythlekphkibeflaa.H.kidsI_all p a
    have hkl : (Go.Proofs.Ythlekphkibeflaa.H.kidsI p p.length a).length = (Go.Proofs.Ythlekphkibeflaa.H.kidsN p a).length := by rw [hkid, List.length_map]
    have hkb : (Go.Proofs.Ythlekphkibeflaa.H.kidsN p a).length ≤ 1000000 := by rw [← hkl]; exact Nat.le_trans (Go.Proofs.Ythlekphkibeflaa.H.kidsI_length_le p _ a) hpl
    rw [hkl] at hc hrun hC
    have HC := Aside0.mk hC
    have HRUN := Aside0.mk hrun
    have HS := Aside0.mk hs
    have HH := Aside0.mk h
    have HN := Aside0.mk hn
    have HIH := Aside0.mk ih
    have HKID := Aside0.mk hkid
    have hb3 : W.cell? ⟨B3, 0, none⟩ = some (.map (some b)) := (blk_cell (blk_below h3 hs.below) 0).trans rfl
    have HP := Aside0.mk hp
    have H3 := Aside0.mk h3
    have HLK := Aside0.mk hL
    clear hC hrun hs h hn ih hkid hp h3 hL hkl ha0 ha1
    go_enter Try.func32, Try.ntmps32
    go_wp2_with (at_lookup; refine Go.Proofs.Ythlekphkibeflaa.H.wpList_lookup_run _ rfl _ _ 51 rfl rfl rfl HRUN.out ?_)
    clear hb3
    go_loopg [13] (Go.Proofs.Ythlekphkibeflaa.H.kidsN p a).length (fun g v13 wr => ∃ (i : Nat) (rest : List Go.Proofs.Ythlekphkibeflaa.H.It3) (v : Value) (o : List S42), i + g = (Go.Proofs.Ythlekphkibeflaa.H.kidsN p a).length ∧ v13 = .int .i64 i ∧ Aside0 (Go.Proofs.Ythlekphkibeflaa.H.rowsK (Go.Proofs.Ythlekphkibeflaa.H.rowK p k) a d ((Go.Proofs.Ythlekphkibeflaa.H.kidsN p a).drop i) = some rest) ∧ Aside0 (o ++ rest.map forest_Row_it = out ++ its.map forest_Row_it) ∧ Aside0 (forest_Row_St W0 B3 v o wr) )
    case atStart => exact ⟨0, its, v, out, by omega, rfl, HH, ⟨rfl⟩, HS⟩
    case round =>
      clear HS HH
      obtain ⟨i, rest, v, o, hi, rfl, HG, HO, HS⟩ := hrel
      by_cases hlt : i < (Go.Proofs.Ythlekphkibeflaa.H.kidsN p a).length
      · have hltz : (i : Int) < ((Go.Proofs.Ythlekphkibeflaa.H.kidsN p a).length : Int) := by omega
        have hg := HG.out
        rw [List.drop_eq_getElem_cons hlt] at hg
        have hmem : (Go.Proofs.Ythlekphkibeflaa.H.kidsN p a)[i] ∈ Go.Proofs.Ythlekphkibeflaa.H.kidsN p a := List.getElem_mem hlt
        generalize hx : (Go.Proofs.Ythlekphkibeflaa.H.kidsN p a)[i] = x at hg hmem
        obtain ⟨X, hX, hg⟩ := Option.bind_eq_some_iff.1 hg
        obtain ⟨Y, hY, hg⟩ := Option.bind_eq_some_iff.1 hg
        obtain rfl := Option.some.inj hg
        have hx1 := (Go.Proofs.Ythlekphkibeflaa.H.kidsN_mem.1 hmem).1
        have hC2 := Kd.C_below HC.out HS.out.below
        have hkr : rd (Go.Proofs.Ythlekphkibeflaa.H.kidsI p p.length a) (i : Int) = (x : Int) := by
          unfold rd
          rw [HKID.out, Int.toNat_natCast, List.getD_eq_getElem?_getD, List.getElem?_map, List.getElem?_eq_getElem hlt, hx]; rfl
        obtain ⟨ad, e, hc1⟩ := Kd.at_int hC2 (i : Int) (by omega) hltz
        cases e
        rw [hkr, Int.toNat_natCast] at hc1
        obtain ⟨A6, c6, rfl⟩ := Kd.R_slice HS.out.row
        have c6b : wr.cell? ⟨W0.heap.size, 0, none⟩ = some (.slice A6 o.length c6) := (blk_cell HS.out.b6 0).trans rfl
        have f6b := blk_frozen HS.out.b6 0
        have c7b : wr.cell? ⟨W0.heap.size + 1, 0, none⟩ = some (.func (.func 32) #[] #[.pointer (some ⟨B3, 0, none⟩), .pointer (some ⟨W0.heap.size, 0, none⟩), .pointer (some ⟨W0.heap.size + 1, 0, none⟩)]) := (blk_cell HS.out.b7 0).trans rfl
        have HLEN := Aside0.mk (show o.length + (X.length + Y.length + 1) ≤ 1000000 by
          have h1 := congrArg List.length HO.out
          simp only [List.length_append, List.length_map, List.length_cons] at h1
          have h2 := HN.out
          omega)
        have HX := Aside0.mk hX
        have HY := Aside0.mk hY
        have HX1 := Aside0.mk hx1
        have HLT := Aside0.mk (show W0.heap.size + 2 ≤ wr.heap.size from blk_lt HS.out.b7)
        have HBASE := Aside0.mk (fun (q : Nat) (e : some q = Value.ownBlock (.slice A6 o.length c6)) => Kd.R_base HS.out.row q e.symm)
        clear hkr hx hmem hX hY hg HG hC2 hx1
        go_wp2_with (first | (at_builtin; refine Kd.R_append k42 (w0 := wr) (W := wr) (W0.heap.size + 2) rfl _ _ 39 42 (.agg #[(.int .i64 0), (.int .i64 0), (.int .i64 0)]) 24 rfl Try.underlying39 info42 rfl (by decide) (by decide) (.slice A6 o.length c6) o ⟨(x : Int), (d : Int), a⟩ [.int .i64 (x : Int), .int .i64 (d : Int), .int .i64 a] (fun _ => True) (fun _ => False) rfl rfl (k42_mkM _ _ _ ⟨(x : Int), (d : Int), a⟩) (fun q hq => hq.elim) (fun q hq => trivial) HS.out.row (Below.refl _ _) HLT.out (by have := HLEN.out; omega) ?_; intro v1 w1 hr1 hb1 hg1 hat1; obtain ⟨A1n, c1n, rfl⟩ := Kd.R_slice hr1; have b61 := Aside0.mk (blk_grown HS.out.b6 hg1 (fun e => by have := HBASE.out _ e; omega)); have b71 := Aside0.mk (blk_grown HS.out.b7 hg1 (fun e => by have := HBASE.out _ e; omega)); have c61 : w1.cell? ⟨W0.heap.size, 0, none⟩ = some (.slice A6 o.length c6) := (blk_cell b61.out 0).trans rfl; have f61 := blk_frozen b61.out 0; have c71 : w1.cell? ⟨W0.heap.size + 1, 0, none⟩ = some (.func (.func 32) #[] #[.pointer (some ⟨B3, 0, none⟩), .pointer (some ⟨W0.heap.size, 0, none⟩), .pointer (some ⟨W0.heap.size + 1, 0, none⟩)]) := (blk_cell b71.out 0).trans rfl))
        have HBW1 := Aside0.mk (pw_below_grown (B := W0.heap.size) HS.out.below _ HS.out.below.size hg1 (fun q e => by have := HBASE.out q e.symm; omega))
        have HST := Aside0.mk (show forest_Row_St W0 B3 (.slice A1n (o.length + 1) c1n) (o ++ [⟨(x : Int), (d : Int), a⟩]) (w1.setCell ⟨W0.heap.size, 0, none⟩ (.slice A1n (o.length + 1) c1n)) from ⟨HBW1.out.setCell (p := ⟨W0.heap.size, 0, none⟩) (Nat.le_refl _) _, blk_set b61.out 0 _, blk_far b71.out (show W0.heap.size + 1 ≠ W0.heap.size by omega) _, by
          have h1 := Kd.R_mono (Kd.R_far (p := ⟨W0.heap.size, 0, none⟩) (Kd.R_bound hr1) (fun q hq e => by have h1 : W0.heap.size + 2 ≤ q := hq.2.1; have h2 : q = W0.heap.size := e; omega) (.slice A1n (o.length + 1) c1n)) (fun _ _ => trivial)
          rw [List.length_append, List.length_singleton] at h1
          exact h1⟩)
        have hcall := HIH.out (x : Int) (d + 1) X _ _ _ (by omega) (by have := HX1.out; omega) HX.out (by rw [List.length_append, List.length_singleton]; have := HLEN.out; omega) HST.out
        rw [show ((d + 1 : Nat) : Int) = (d : Int) + 1 from by omega] at hcall
        refine hcall.mono ?_
        rintro e w2 ⟨rfl, v2, hs2⟩
        have HS2 := Aside0.mk hs2
        clear hs2 hcall
        go_wp2_with (fail)
        go_roundg (gk - 1)
        case measure => omega
        case rel => exact ⟨i + 1, Y, v2, _, by omega, by go_num, HY, ⟨by have h1 := HO.out; rw [← h1, List.map_cons, List.map_append]; simp [forest_Row_it]⟩, HS2⟩
      · have hltz : ¬ (i : Int) < ((Go.Proofs.Ythlekphkibeflaa.H.kidsN p a).length : Int) := by omega
        have hg := HG.out
        rw [List.drop_of_length_le (by omega)] at hg
        obtain rfl := Option.some.inj (show some [] = some rest from hg)
        have ho := HO.out
        rw [List.map_nil, List.append_nil] at ho
        go_wp2_with (fail)
        go_end0
        exact ⟨rfl, v, ho ▸ HS.out⟩
set_option maxHeartbeats 8000000 in
set_option maxRecDepth 100000 in
theorem forest_Row.calls (k : Nat) (A0 : Option Addr) (c0 : Nat) (l0 : List Int) (r : List S42) (w : World) (hr0 : Kd.C (Kd.int .i64) w A0 l0.length l0) (hc0 : l0.length ≤ c0) (h : forest_Row.f k l0 = some r) :
    Calls Try.prog 20 #[.slice A0 l0.length c0] w fun e w' => ∃ v0_ : Value, e = .returned (v0_) ∧ Kd.R k42 42 w' w.heap.size (fun _ => True) v0_ r ∧ Below w.heap.size w w' := by
  have hmm := @run_makeMap Try.prog
  have hmf : ∀ (fn : Fn) (first cap : Array Value) (w : World), (Instr.makeFunc fn first cap).run Try.prog w = .ok (.func fn first cap) w := fun _ _ _ _ => rfl
  obtain ⟨q, hq, h'⟩ := Option.bind_eq_some_iff.mp h
  clear h
  have h := h'
  clear h'
  have HR0 := Aside0.mk hr0
  have HC0 := Aside0.mk hc0
  have HQ := Aside0.mk hq
  clear hr0 hc0 hq
  cases q with
  | false =>
    obtain rfl := Option.some.inj (show some [] = some r from h)
    clear h
    go_enter Try.func20, Try.ntmps20
    go_wp2_with (fail)
    refine (parent_Right.calls k A0 c0 l0 false _ HR0.out HC0.out HQ.out).mono ?_
    rintro e w1 ⟨rfl, hb1⟩
    have HB1 := Aside0.mk hb1
    clear hb1
    go_wp2_with (fail)
    go_ret
    exact ⟨_, rfl, Kd.R_nil _ _ _ _ _, HB1.out⟩
  | true =>
  rw [if_pos rfl] at h
  by_cases cn : l0.length ≤ 1000000 ∧ Go.Proofs.Ythlekphkibeflaa.H.okB l0 = true
  case neg => rw [if_neg cn] at h; cases h
  rw [if_pos cn] at h
  obtain ⟨its, hits, h⟩ := Option.bind_eq_some_iff.mp h
  by_cases cl : its.length ≤ 1000000
  case neg => rw [if_neg cl] at h; cases h
  rw [if_pos cl] at h
  obtain rfl := Option.some.inj h
  obtain ⟨hn, hok⟩ := cn
  have hp := Go.Proofs.Ythlekphkibeflaa.H.okB_iff.1 hok
  have HI := Aside0.mk hits
  have HP := Aside0.mk hp
  have HCL := Aside0.mk cl
  clear h hits hp hok cl
  obtain ⟨i0_, hi0, hz0, hz1, hz2⟩ := info_parts info3
  go_enter Try.func20, Try.ntmps20
  go_wp2_with (fail)
  refine (parent_Right.calls k A0 c0 l0 true _ HR0.out HC0.out HQ.out).mono ?_
  rintro e w1 ⟨rfl, hb1⟩
  have HB1 := Aside0.mk hb1
  clear hb1
  have HGZ := Aside0.mk (show (w1.alloc (.map #[] 0)).ownsGroups (H := Unit) Try.prog 3 (w1.heap.size + 1) 3 .i64 w1.heap.size 0 (.map []) from World.ownsGroups_made w1 Try.prog 3 3 .i64)
  have HGA := Aside0.mk (HGZ.out.kept (World.grownBy_alloc _ (.cells #[.map (some w1.heap.size)] 51 (0, 0)) none) (by simp) (fun es clock _ x _ => by cases x.val.ownBlock <;> simp))
  have HBA := Aside0.mk (below_alloc (below_alloc HB1.out (.map #[] 0)) (.cells #[.map (some w1.heap.size)] 51 (0, 0)))
  have HKA := Aside0.mk (show ((w1.alloc (.map #[] 0)).alloc (.cells #[.map (some w1.heap.size)] 51 (0, 0))).heap[w1.heap.size + 1]? = some (.cells #[.map (some w1.heap.size)] 51 (0, 0)) by
    have h_ := blk_new (w1.alloc (.map #[] 0)) (.cells #[.map (some w1.heap.size)] 51 (0, 0))
    rw [World.size_alloc] at h_
    exact h_)
  have HSZ := Aside0.mk HB1.out.size
  clear HGZ
  go_wp2_with (fail)
  generalize hb : w1.heap.size = b at HGA HBA HKA HSZ ⊢
  go_loopg [14] l0.length (fun d v14 wr => ∃ (i : Nat) (D : DataW Unit), i + d = l0.length ∧ v14 = .int .i64 i ∧ Aside0 (Below w.heap.size w wr) ∧ Aside0 (Go.Proofs.Ythlekphkibeflaa.H.GMap l0 i D) ∧ Aside0 (wr.ownsGroups Try.prog 3 (b + 1) 3 .i64 b i D) ∧ Aside0 (wr.heap[b + 1]? = some (.cells #[.map (some b)] 51 (0, 0))) ∧ Aside0 (b + 2 ≤ wr.heap.size))
  case atStart => exact ⟨0, .map [], by omega, rfl, HBA, ⟨Go.Proofs.Ythlekphkibeflaa.H.GMap_nil l0⟩, HGA, HKA, ⟨by rw [World.size_alloc, World.size_alloc, hb]; omega⟩⟩
  case round =>
    clear HGA HBA HKA hb
    obtain ⟨i, D, hi, rfl, HB, HD, HG, HK, HZ⟩ := hrel
    by_cases hlt : i < l0.length
    · have hltz : (i : Int) < (l0.length : Int) := by omega
      obtain ⟨ad, e, hx⟩ := Kd.at_int HR0.out (i : Int) (by omega) hltz
      cases e
      have hv : rd l0 (i : Int) = l0.getD i 0 := by unfold rd; rw [Int.toNat_natCast]
      rw [hv, Int.toNat_natCast] at hx
      have hxr := (HB.out.cell (World.block_lt_of_cell? w _ hx)).trans hx
      have hpx := HP.out (l0.getD i 0) (by rw [List.getD_eq_getElem?_getD, List.getElem?_eq_getElem hlt]; exact List.getElem_mem hlt)
      have hw : (Lit.int .i64 (l0.getD i 0)).wf = true := Go.WalkArith.wf_i64 ⟨by omega, by omega⟩
      have hstep : ∀ {w : World} {v' : Value}, w.ownsInts (b + 1) 3 .i64 v' (Go.Proofs.Ythlekphkibeflaa.H.kidsI l0 i (l0.getD i 0) ++ [(i : Int)]) → Go.Proofs.Ythlekphkibeflaa.H.GMap l0 (i + 1) (D.put (.int .i64 (l0.getD i 0)) (rowDatum .i64 v' (Go.Proofs.Ythlekphkibeflaa.H.kidsI l0 i (l0.getD i 0) ++ [(i : Int)]))) := fun ho => Go.Proofs.Ythlekphkibeflaa.H.GMap_step HD.out ho
      have hat0 := HD.out.at_ (l0.getD i 0)
      have HSTEP := Aside0.mk @hstep
      have HAT := Aside0.mk hat0
      clear hx hv hstep hat0 hpx
      generalize l0.getD i 0 = x at hxr hw HSTEP HAT
      have hkey : keyOf Try.prog 3 (.int .i64 x) = some (.int .i64 x) := Go.Maps.keyOf_int_mk Try.underlying3 hw
      have c3 : wr.cell? ⟨b + 1, 0, none⟩ = some (.map (some b)) := (blk_cell HK.out 0).trans rfl
      obtain ⟨es, clock, v, zs, hbm, hlk, hat, hoi, hzl, hback⟩ := Go.Proofs.Ythlekphkibeflaa.H.groups_at (P := Try.prog) (t := 51) Try.underlying3 Try.underlying51 (forest_Row_zero) (show wr.drew.ownsGroups Try.prog 3 (b + 1) 3 .i64 b i D from HG.out) (by unfold maxLen; omega) hw
      obtain rfl : zs = Go.Proofs.Ythlekphkibeflaa.H.kidsI l0 i x := Go.Proofs.Ythlekphkibeflaa.H.datI_row hoi (by rw [← HAT.out]; exact hat)
      have HBACK := Aside0.mk @hback
      have HOI := Aside0.mk hoi
      have HZL := Aside0.mk hzl
      clear hw hat hback hoi hzl
      go_wp2_with (fail)
      have HNK := Aside0.mk (Go.Proofs.Ythlekphkibeflaa.H.row_not HOI.out.1 (show wr.drew.heap[b + 1]? = _ from HK.out) (by decide))
      have HNB := Aside0.mk (Go.Proofs.Ythlekphkibeflaa.H.row_base HOI.out.1 (show b < b + 1 by omega))
      have HBM := Aside0.mk (show wr.drew.heap[b]? = some (.map es clock) from hbm)
      refine start_ (n := 9) (S := fun w' => w'.cell? ⟨b + 1, 0, none⟩ = some (.map (some b)) ∧ w'.heap[b]? = some (.map es clock) ∧ True ∧ True) (ds := [8]) #[false, false, false, false, false, false, false, false, false] (by kernel_rfl) rfl rfl ⟨c3, hbm, trivial, trivial⟩ (fun hHeld => ?_)
      refine pure_ (i := 1) (N := some 20) (v := ?_) (a' := ?_) #[false, true, false, false, false, false, false, false, false] rfl rfl (by kernel_rfl) (fun _ _ _ h => h) (Or.inl ⟨by rfl, ?_⟩) ?_ ?_
      rotate_left
      · intro w'
        go_simp
        with_reducible rfl
      rotate_left
      · simp only [Act.put, List.setIfInBounds_toArray, List.set_cons_zero, List.set_cons_succ, i64_w, i32_w]
        rfl
      refine pure_ (i := 3) (N := some 22) (v := ?_) (a' := ?_) #[false, true, false, true, false, false, false, false, false] rfl rfl (by kernel_rfl) (fun _ _ _ h => h) (Or.inl ⟨by rfl, ?_⟩) ?_ ?_
      rotate_left
      · intro w'
        go_simp
        with_reducible rfl
      rotate_left
      · simp only [Act.put, List.setIfInBounds_toArray, List.set_cons_zero, List.set_cons_succ, i64_w, i32_w]
        rfl
      refine pure_ (i := 5) (N := some 24) (v := ?_) (a' := ?_) #[false, true, false, true, false, true, false, false, false] rfl rfl (by kernel_rfl) (fun _ _ _ h => h) (Or.inl ⟨by rfl, ?_⟩) ?_ ?_
      rotate_left
      · intro w'
        go_simp
        with_reducible rfl
      rotate_left
      · simp only [Act.put, List.setIfInBounds_toArray, List.set_cons_zero, List.set_cons_succ, i64_w, i32_w]
        rfl
      refine take_ (i := 0) (N := some 19) (v := ?_) (a' := ?_) #[true, true, false, true, false, true, false, false, false] rfl rfl (by kernel_rfl) (fun _ _ _ h => h) (Or.inl ⟨by rfl, ?_⟩) hHeld ?_ ?_
      rotate_left
      · rintro w' ⟨s0, s1, s2, s3⟩
        go_simp
        with_reducible rfl
      rotate_left
      · simp only [Act.put, List.setIfInBounds_toArray, List.set_cons_zero, List.set_cons_succ, i64_w, i32_w]
        rfl
      refine take_ (i := 2) (N := some 21) (v := ?_) (a' := ?_) #[true, true, true, true, false, true, false, false, false] rfl rfl (by kernel_rfl) (fun _ _ _ h => h) (Or.inl ⟨by rfl, ?_⟩) hHeld ?_ ?_
      rotate_left
      · rintro w' ⟨s0, s1, s2, s3⟩
        go_simp
        with_reducible rfl
      rotate_left
      · simp only [Act.put, List.setIfInBounds_toArray, List.set_cons_zero, List.set_cons_succ, i64_w, i32_w]
        rfl
      refine take_ (i := 4) (N := some 23) (v := ?_) (a' := ?_) #[true, true, true, true, true, true, false, false, false] rfl rfl (by kernel_rfl) (fun _ _ _ h => h) (Or.inl ⟨by rfl, ?_⟩) hHeld ?_ ?_
      rotate_left
      · rintro w' ⟨s0, s1, s2, s3⟩
        go_simp
        with_reducible rfl
      rotate_left
      · simp only [Act.put, List.setIfInBounds_toArray, List.set_cons_zero, List.set_cons_succ, i64_w, i32_w]
        rfl
      refine one_ (i := 6) (N := some 25) #[true, true, true, true, true, true, true, false, false] rfl rfl (by kernel_rfl) (by decide) (fun K hK => ?_)
      refine event_step (w1 := wr.drew.alloc (.cells #[.int .i64 (i : Int)] 3 (0, 0))) (v := .slice (some ⟨wr.drew.heap.size, 0, none⟩) 1 1) ?hw ?hr ?_; (case hw => rfl); (case hr => first | (go_simp; done) | (go_simp; rfl))
      refine hK.out _ _ ⟨((blk_cell (blk_alloc (show wr.drew.heap[b + 1]? = _ from HK.out) _) 0).trans rfl), (blk_alloc HBM.out _), trivial, trivial⟩ (fun hHeld => ?_)
      clear hK K
      refine norm_ (a' := ?_) ?_ ?_
      rotate_left
      · show Act.put _ (some 25) _ = _
        simp only [Act.put, List.setIfInBounds_toArray, List.set_cons_zero, List.set_cons_succ, i64_w, i32_w]
        rfl
      refine one_ (i := 7) (N := some 26) #[true, true, true, true, true, true, true, true, false] rfl rfl (by kernel_rfl) (by decide) (fun K hK => ?_)
      refine step_append_cells (w0 := wr.drew) (W := wr.drew) (b + 1) ?hw7 (.tmp 23) (.tmp 25) 23 3 (.int .i64 0) 1 8 rfl Try.underlying23 info3 rfl (by decide) (by decide) v (Go.Proofs.Ythlekphkibeflaa.H.kidsI l0 i x).length _ [.int .i64 (i : Int)] rfl rfl rfl (by intro u hu; simp at hu; subst hu; rfl) HOI.out.1 (Below.refl _ _) (show b + 1 ≤ wr.heap.size by have := HZ.out; omega) (by have := HZL.out; omega) ?_; (case hw7 => rfl)
      intro v' w1 hown' hb1' hgrow hloc
      have HK1 := Aside0.mk (blk_grown (show wr.drew.heap[b + 1]? = _ from HK.out) hgrow HNK.out)
      have HM1 := Aside0.mk (blk_grown HBM.out hgrow HNB.out)
      have HOI1 := Aside0.mk (HOI.out.appended hown' (Go.WalkArith.wf_i64 ⟨by omega, by omega⟩))
      have HGROW := Aside0.mk hgrow
      have HLOC := Aside0.mk hloc
      clear hown' hb1' hgrow hloc
      refine hK.out _ _ ⟨((blk_cell HK1.out 0).trans rfl), HM1.out, trivial, trivial⟩ (fun hHeld => ?_)
      clear hK K
      refine norm_ (a' := ?_) ?_ ?_
      rotate_left
      · show Act.put _ (some 26) _ = _
        simp only [Act.put, List.setIfInBounds_toArray, List.set_cons_zero, List.set_cons_succ, i64_w, i32_w]
        rfl
      refine last_ (i := 8) (N := none) #[true, true, true, true, true, true, true, true, true] rfl rfl (by kernel_rfl) (by decide) (fun K hK => ?_)
      obtain ⟨w2, hrun2, hown2, hgrow2⟩ := HBACK.out w1 v' _ HGROW.out HOI1.out (by rw [List.length_append, List.length_singleton]; have := HZL.out; omega) HLOC.out
      have HOWN2 := Aside0.mk hown2
      have HGROW2 := Aside0.mk hgrow2
      clear hown2 hgrow2
      refine skip_ (w1 := w2) (by rfl) rfl ?_ ?_
      · (first | (go_simp; done) | (go_simp; rfl))
      refine hK.out _ _ ?_
      clear hK K
      refine done_ (by kernel_rfl) ?_
      clear hrun2
      go_wp2_with (fail)
      go_roundg (gk - 1)
      case measure => omega
      case rel => exact ⟨i + 1, _, by omega, by go_num, ⟨RowKit.Below.groups (show Below w.heap.size w wr.drew from below_drew1 HB.out) HOI.out HGROW.out HGROW2.out HB.out.size (by have := HSZ.out; omega) HSZ.out⟩, ⟨HSTEP.out HOI1.out⟩, HOWN2, ⟨blk_grown HK1.out HGROW2.out (by simp)⟩, ⟨by have h1 := HGROW.out.size; have h2 := HGROW2.out.size; have h3 := HZ.out; have h4 : wr.drew.heap.size = wr.heap.size := rfl; omega⟩⟩
    · have hltz : ¬ (i : Int) < (l0.length : Int) := by omega
      obtain rfl : i = l0.length := by omega
      have hL : ∀ (a : Int), -1 ≤ a → a < (l0.length : Int) → ∀ W, Below wr.heap.size wr W → ∃ A c, (Go.Proofs.Ythlekphkibeflaa.H.kidsI l0 l0.length a).length ≤ c ∧ (Instr.lookup 51 (.map (some b)) (.int .i64 a) false).run Try.prog W = .ok (.slice A (Go.Proofs.Ythlekphkibeflaa.H.kidsI l0 l0.length a).length c) W ∧ Kd.C (Kd.int .i64) wr A (Go.Proofs.Ythlekphkibeflaa.H.kidsI l0 l0.length a).length (Go.Proofs.Ythlekphkibeflaa.H.kidsI l0 l0.length a) := fun a ha0 ha1 W hW =>
        Go.Proofs.Ythlekphkibeflaa.H.kids_look (P := Try.prog) (t := 51) forest_Row_law Try.underlying3 Try.underlying51 (forest_Row_zero) HG.out HD.out a (Go.WalkArith.wf_i64 ⟨by omega, by omega⟩) W hW
      have HLL := Aside0.mk hL
      clear hL
      go_wp2_with (fail)
      have h7 : ∀ (F : Value), ((wr.alloc (.cells #[.slice none 0 0] 39 (0, 0))).alloc (.cells #[F] 52 (0, 0))).heap[wr.heap.size + 1]? = some (.cells #[F] 52 (0, 0)) := fun F => by
        have h_ := blk_new (wr.alloc (.cells #[.slice none 0 0] 39 (0, 0))) (.cells #[F] 52 (0, 0))
        rw [World.size_alloc] at h_
        exact h_
      have HST := Aside0.mk (show forest_Row_St wr (b + 1) (.slice none 0 0) [] ((wr.alloc (.cells #[.slice none 0 0] 39 (0, 0))).alloc (.cells #[.func (.func 32) #[] #[.pointer (some ⟨b + 1, 0, none⟩), .pointer (some ⟨wr.heap.size, 0, none⟩), .pointer (some ⟨wr.heap.size + 1, 0, none⟩)]] 52 (0, 0))) from
        ⟨below_alloc (below_alloc (Below.refl _ _) _) _, blk_alloc (blk_new _ _) _, h7 _, Kd.R_nil _ _ _ _ _⟩)
      have hcall := forest_Row_below wr (b + 1) b l0 HP.out hn HK.out HLL.out k (-1) 0 its _ [] _ (by omega) (by omega) HI.out (by have := HCL.out; simpa using this) HST.out
      rw [show ((0 : Nat) : Int) = 0 from rfl] at hcall
      refine hcall.mono ?_
      rintro e w5 ⟨rfl, v5, hs5⟩
      rw [List.nil_append] at hs5
      have HS5 := Aside0.mk hs5
      obtain ⟨A5, c5, rfl⟩ := Kd.R_slice hs5.row
      have c6 : w5.cell? ⟨wr.heap.size, 0, none⟩ = some (.slice A5 (its.map forest_Row_it).length c5) := (blk_cell hs5.b6 0).trans rfl
      clear hs5 hcall h7
      go_wp2_with (fail)
      go_ret
      exact ⟨.slice A5 its.length c5, rfl, Kd.R_lower (base := wr.heap.size + 2) (by have h_ := HS5.out.row; rw [List.length_map] at h_; exact h_) (show w.heap.size ≤ wr.heap.size + 2 by have := HB.out.size; omega), below_step HB.out HS5.out.below⟩


/-! ### clamp_between_int64: function 33 -/
def clamp_between_int64.f (a0 : Int) (a1 : Int) (a2 : Int) : Option (Int) := some (mx a1 (mn a0 a2))
set_option maxHeartbeats 8000000 in
set_option maxRecDepth 100000 in
theorem clamp_between_int64.calls (a0 : Int) (a1 : Int) (a2 : Int) (r : Int) (w : World) (h : clamp_between_int64.f a0 a1 a2 = some r) :
    Calls Try.prog 33 #[.int .i64 a0, .int .i64 a1, .int .i64 a2] w fun e w' => e = .returned (.int .i64 r) ∧ Below w.heap.size w w' := by
  have HB := Aside0.mk (Below.refl w.heap.size w)
  have H : (some (mx a1 (mn a0 a2))) = some r := h
  clear h
  obtain ⟨ji4, hji4⟩ : ∃ j_ : Int, (mn a0 a2) = j_ := ⟨_, rfl⟩
  replace H : (some (mx a1 (ji4))) = some r := by first | (rw [hji4] at H; exact H) | (simp only [hji4] at H ⊢; exact H)
  have hji4_ : (if a2 < a0 then a2 else a0) = ji4 := hji4
  obtain ⟨ji5, hji5⟩ : ∃ j_ : Int, (mx a1 (ji4)) = j_ := ⟨_, rfl⟩
  replace H : (some ji5) = some r := by first | (rw [hji5] at H; exact H) | (simp only [hji5] at H ⊢; exact H)
  have hji5_ : (if a1 < (ji4) then (ji4) else a1) = ji5 := hji5
  obtain rfl := Option.some.inj H
  go_enter Try.func33, Try.ntmps33
  go_wp2
  go_ret
  exact ⟨by first | rfl | (simp [errW_none, errW_some] <;> rfl) | (simp only [← hji4, ← hji5]; first | rfl | (simp [errW_none, errW_some] <;> rfl)) | (simp [*, errW_none, errW_some] <;> rfl), by repeat (first | (with_reducible first | exact HB.out | apply below_alloc | apply pw_below_drewN | apply below_drew1) | exact HB.out)⟩

/-! ### clamp_start: function 21 -/
def clamp_start.f (a0_0 : Int) (a0_1 : Int) (a0_2 : Int) (a0_3 : Int) (a0_4 : ByteArray) (a0_5 : ByteArray) (a0_6 : Int) (a0_7 : Int) (a1_0 : Int) (a1_1 : Int) (a1_2 : Int) (a1_3 : Int) (a1_4 : ByteArray) (a1_5 : ByteArray) (a1_6 : Int) (a1_7 : Int) (a2 : Int) : Option (Int) := if a0_7 > a1_7 then (some a2) else ((clamp_between_int64.f (wrap64 ((wrap64 (a0_6 + a2)) - a1_6)) a2 (wrap64 ((wrap64 (a2 + a1_7)) - a0_7))).bind fun t111 => (some t111))
set_option maxHeartbeats 8000000 in
set_option maxRecDepth 100000 in
theorem clamp_start.calls (a0_0 : Int) (a0_1 : Int) (a0_2 : Int) (a0_3 : Int) (a0_4 : ByteArray) (a0_5 : ByteArray) (a0_6 : Int) (a0_7 : Int) (a1_0 : Int) (a1_1 : Int) (a1_2 : Int) (a1_3 : Int) (a1_4 : ByteArray) (a1_5 : ByteArray) (a1_6 : Int) (a1_7 : Int) (a2 : Int) (r : Int) (w : World) (h : clamp_start.f a0_0 a0_1 a0_2 a0_3 a0_4 a0_5 a0_6 a0_7 a1_0 a1_1 a1_2 a1_3 a1_4 a1_5 a1_6 a1_7 a2 = some r) :
    Calls Try.prog 21 #[.agg #[.int .u64 a0_0, .int .u64 a0_1, .int .u64 a0_2, .int .u8 a0_3, .string a0_4, .string a0_5, .int .i64 a0_6, .int .i64 a0_7], .agg #[.int .u64 a1_0, .int .u64 a1_1, .int .u64 a1_2, .int .u8 a1_3, .string a1_4, .string a1_5, .int .i64 a1_6, .int .i64 a1_7], .int .i64 a2] w fun e w' => e = .returned (.int .i64 r) ∧ Below w.heap.size w w' := by
  have hu34 := Try.underlying34
  have HB := Aside0.mk (Below.refl w.heap.size w)
  have H : (if a0_7 > a1_7 then (some a2) else ((clamp_between_int64.f (wrap64 ((wrap64 (a0_6 + a2)) - a1_6)) a2 (wrap64 ((wrap64 (a2 + a1_7)) - a0_7))).bind fun t111 => (some t111))) = some r := h
  clear h
  by_cases c4 : a0_7 > a1_7
  · rw [if_pos c4] at H
    have c4b0 : decide (a1_7 < a0_7) = true := decide_eq_true c4
    clear c4
    obtain rfl := Option.some.inj H
    go_enter Try.func21, Try.ntmps21
    go_wp2_with (first | ((with_reducible refine gate_dst (N := 3) rfl ?_); refine box_event ?hg (N := 3) ?hd (cs := #[.int .u64 a0_0, .int .u64 a0_1, .int .u64 a0_2, .int .u8 a0_3, .string a0_4, .string a0_5, .int .i64 a0_6, .int .i64 a0_7]) (t := 34) ?hr ?_; (case hd => rfl); (case hg => rfl); (case hr => first | (go_simp; done) | (go_simp; rfl)); intro gb109 hg w5 hbox hb; have n0_ := Aside0.mk (below_step (by repeat (first | (with_reducible first | exact HB.out | apply below_alloc | apply pw_below_drewN | apply below_drew1) | exact HB.out)) hb); have n1_ := Aside0.mk (hbox); have n2_ := Aside0.mk ((by rw [hg]; exact (below_size (by repeat (first | (with_reducible first | exact HB.out | apply below_alloc | apply pw_below_drewN | apply below_drew1) | exact HB.out))) : w.heap.size ≤ gb109)); have n3_ := Aside0.mk ((by rw [hg]; exact (below_size (by repeat (first | (with_reducible first | exact HB.out | apply below_alloc | apply pw_below_drewN | apply below_drew1) | exact HB.out))) : w.heap.size ≤ gb109)); clear HB; have HB := n0_; have BK109 := n1_; have GW109 := n2_; have GE109 := n3_; clear n0_ n1_ n2_ n3_; clear hb hbox hg) | ((with_reducible refine gate_dst (N := 4) rfl ?_); refine box_event ?hg (N := 4) ?hd (cs := #[.int .u64 a1_0, .int .u64 a1_1, .int .u64 a1_2, .int .u8 a1_3, .string a1_4, .string a1_5, .int .i64 a1_6, .int .i64 a1_7]) (t := 34) ?hr ?_; (case hd => rfl); (case hg => rfl); (case hr => first | (go_simp; done) | (go_simp; rfl)); intro gb110 hg w6 hbox hb; have n0_ := Aside0.mk (blk_below (g := gb109) (o := .cells #[.int .u64 a0_0, .int .u64 a0_1, .int .u64 a0_2, .int .u8 a0_3, .string a0_4, .string a0_5, .int .i64 a0_6, .int .i64 a0_7] 34 (0, 0)) (by (with_reducible repeat (first | refine blk_drewN ?_ _ | refine blk_drew ?_ | refine blk_alloc ?_ _)); exact BK109.out) hb); have n1_ := Aside0.mk (below_step (by repeat (first | (with_reducible first | exact HB.out | apply below_alloc | apply pw_below_drewN | apply below_drew1 | refine below_set ?_ GE109.out) | exact HB.out)) hb); have n2_ := Aside0.mk (hbox); have n3_ := Aside0.mk ((by rw [hg]; exact (below_size (by repeat (first | (with_reducible first | exact HB.out | apply below_alloc | apply pw_below_drewN | apply below_drew1 | refine below_set ?_ GE109.out) | exact HB.out))) : w.heap.size ≤ gb110)); have n4_ := Aside0.mk ((by rw [hg]; exact (below_size (by repeat (first | (with_reducible first | exact HB.out | apply below_alloc | apply pw_below_drewN | apply below_drew1 | refine below_set ?_ GE109.out) | exact HB.out))) : w.heap.size ≤ gb110)); have n5_ := Aside0.mk ((by rw [hg]; exact Nat.ne_of_lt (blk_lt (g := gb109) (o := .cells #[.int .u64 a0_0, .int .u64 a0_1, .int .u64 a0_2, .int .u8 a0_3, .string a0_4, .string a0_5, .int .i64 a0_6, .int .i64 a0_7] 34 (0, 0)) (by (with_reducible repeat (first | refine blk_drewN ?_ _ | refine blk_drew ?_ | refine blk_alloc ?_ _)); exact BK109.out)) : gb109 ≠ gb110)); have n6_ := Aside0.mk ((by rw [hg]; exact Nat.ne_of_gt (blk_lt (g := gb109) (o := .cells #[.int .u64 a0_0, .int .u64 a0_1, .int .u64 a0_2, .int .u8 a0_3, .string a0_4, .string a0_5, .int .i64 a0_6, .int .i64 a0_7] 34 (0, 0)) (by (with_reducible repeat (first | refine blk_drewN ?_ _ | refine blk_drew ?_ | refine blk_alloc ?_ _)); exact BK109.out)) : gb110 ≠ gb109)); clear BK109; clear HB; have BK109 := n0_; have HB := n1_; have BK110 := n2_; have GW110 := n3_; have GE110 := n4_; have NB109_110 := n5_; have NB110_109 := n6_; clear n0_ n1_ n2_ n3_ n4_ n5_ n6_; clear hb hbox hg; have hnb7 := NB109_110.out; have hnc7 := NB110_109.out; have hcz8_0 : w6.cell? ⟨gb109, 0, none⟩ = some (.int .u64 a0_0) := (blk_cell BK109.out 0).trans rfl; have hcz8_1 : w6.cell? ⟨gb109, 1, none⟩ = some (.int .u64 a0_1) := (blk_cell BK109.out 1).trans rfl; have hcz8_2 : w6.cell? ⟨gb109, 2, none⟩ = some (.int .u64 a0_2) := (blk_cell BK109.out 2).trans rfl; have hcz8_3 : w6.cell? ⟨gb109, 3, none⟩ = some (.int .u8 a0_3) := (blk_cell BK109.out 3).trans rfl; have hcz8_4 : w6.cell? ⟨gb109, 4, none⟩ = some (.string a0_4) := (blk_cell BK109.out 4).trans rfl; have hcz8_5 : w6.cell? ⟨gb109, 5, none⟩ = some (.string a0_5) := (blk_cell BK109.out 5).trans rfl; have hcz8_6 : w6.cell? ⟨gb109, 6, none⟩ = some (.int .i64 a0_6) := (blk_cell BK109.out 6).trans rfl; have hcz8_7 : w6.cell? ⟨gb109, 7, none⟩ = some (.int .i64 a0_7) := (blk_cell BK109.out 7).trans rfl; have hfz8_0 := blk_frozen BK109.out 0; have hfz8_1 := blk_frozen BK109.out 1; have hfz8_2 := blk_frozen BK109.out 2; have hfz8_3 := blk_frozen BK109.out 3; have hfz8_4 := blk_frozen BK109.out 4; have hfz8_5 := blk_frozen BK109.out 5; have hfz8_6 := blk_frozen BK109.out 6; have hfz8_7 := blk_frozen BK109.out 7; have hcz9_0 : w6.cell? ⟨gb110, 0, none⟩ = some (.int .u64 a1_0) := (blk_cell BK110.out 0).trans rfl; have hcz9_1 : w6.cell? ⟨gb110, 1, none⟩ = some (.int .u64 a1_1) := (blk_cell BK110.out 1).trans rfl; have hcz9_2 : w6.cell? ⟨gb110, 2, none⟩ = some (.int .u64 a1_2) := (blk_cell BK110.out 2).trans rfl; have hcz9_3 : w6.cell? ⟨gb110, 3, none⟩ = some (.int .u8 a1_3) := (blk_cell BK110.out 3).trans rfl; have hcz9_4 : w6.cell? ⟨gb110, 4, none⟩ = some (.string a1_4) := (blk_cell BK110.out 4).trans rfl; have hcz9_5 : w6.cell? ⟨gb110, 5, none⟩ = some (.string a1_5) := (blk_cell BK110.out 5).trans rfl; have hcz9_6 : w6.cell? ⟨gb110, 6, none⟩ = some (.int .i64 a1_6) := (blk_cell BK110.out 6).trans rfl; have hcz9_7 : w6.cell? ⟨gb110, 7, none⟩ = some (.int .i64 a1_7) := (blk_cell BK110.out 7).trans rfl; have hfz9_0 := blk_frozen BK110.out 0; have hfz9_1 := blk_frozen BK110.out 1; have hfz9_2 := blk_frozen BK110.out 2; have hfz9_3 := blk_frozen BK110.out 3; have hfz9_4 := blk_frozen BK110.out 4; have hfz9_5 := blk_frozen BK110.out 5; have hfz9_6 := blk_frozen BK110.out 6; have hfz9_7 := blk_frozen BK110.out 7))
    go_ret
    exact ⟨by first | rfl | (simp [errW_none, errW_some] <;> rfl) | (simp [*, errW_none, errW_some] <;> rfl), by repeat (first | (with_reducible first | exact HB.out | apply below_alloc | apply pw_below_drewN | apply below_drew1 | refine below_set ?_ GE109.out | refine below_set ?_ GE110.out) | exact HB.out)⟩
  · rw [if_neg c4] at H
    have c4b0 : decide (a1_7 < a0_7) = false := decide_eq_false c4
    clear c4
    replace H := Option.bind_eq_some_iff.mp H
    obtain ⟨t111, A100, H⟩ := H
    replace H : (some t111) = some r := H
    have A10 := Aside0.mk A100
    clear A100
    obtain rfl := Option.some.inj H
    go_enter Try.func21, Try.ntmps21
    go_wp2_with (first | ((with_reducible refine gate_dst (N := 3) rfl ?_); refine box_event ?hg (N := 3) ?hd (cs := #[.int .u64 a0_0, .int .u64 a0_1, .int .u64 a0_2, .int .u8 a0_3, .string a0_4, .string a0_5, .int .i64 a0_6, .int .i64 a0_7]) (t := 34) ?hr ?_; (case hd => rfl); (case hg => rfl); (case hr => first | (go_simp; done) | (go_simp; rfl)); intro gb109 hg w11 hbox hb; have n0_ := Aside0.mk (below_step (by repeat (first | (with_reducible first | exact HB.out | apply below_alloc | apply pw_below_drewN | apply below_drew1) | exact HB.out)) hb); have n1_ := Aside0.mk (hbox); have n2_ := Aside0.mk ((by rw [hg]; exact (below_size (by repeat (first | (with_reducible first | exact HB.out | apply below_alloc | apply pw_below_drewN | apply below_drew1) | exact HB.out))) : w.heap.size ≤ gb109)); have n3_ := Aside0.mk ((by rw [hg]; exact (below_size (by repeat (first | (with_reducible first | exact HB.out | apply below_alloc | apply pw_below_drewN | apply below_drew1) | exact HB.out))) : w.heap.size ≤ gb109)); clear HB; have HB := n0_; have BK109 := n1_; have GW109 := n2_; have GE109 := n3_; clear n0_ n1_ n2_ n3_; clear hb hbox hg) | ((with_reducible refine gate_dst (N := 4) rfl ?_); refine box_event ?hg (N := 4) ?hd (cs := #[.int .u64 a1_0, .int .u64 a1_1, .int .u64 a1_2, .int .u8 a1_3, .string a1_4, .string a1_5, .int .i64 a1_6, .int .i64 a1_7]) (t := 34) ?hr ?_; (case hd => rfl); (case hg => rfl); (case hr => first | (go_simp; done) | (go_simp; rfl)); intro gb110 hg w12 hbox hb; have n0_ := Aside0.mk (blk_below (g := gb109) (o := .cells #[.int .u64 a0_0, .int .u64 a0_1, .int .u64 a0_2, .int .u8 a0_3, .string a0_4, .string a0_5, .int .i64 a0_6, .int .i64 a0_7] 34 (0, 0)) (by (with_reducible repeat (first | refine blk_drewN ?_ _ | refine blk_drew ?_ | refine blk_alloc ?_ _)); exact BK109.out) hb); have n1_ := Aside0.mk (below_step (by repeat (first | (with_reducible first | exact HB.out | apply below_alloc | apply pw_below_drewN | apply below_drew1 | refine below_set ?_ GE109.out) | exact HB.out)) hb); have n2_ := Aside0.mk (hbox); have n3_ := Aside0.mk ((by rw [hg]; exact (below_size (by repeat (first | (with_reducible first | exact HB.out | apply below_alloc | apply pw_below_drewN | apply below_drew1 | refine below_set ?_ GE109.out) | exact HB.out))) : w.heap.size ≤ gb110)); have n4_ := Aside0.mk ((by rw [hg]; exact (below_size (by repeat (first | (with_reducible first | exact HB.out | apply below_alloc | apply pw_below_drewN | apply below_drew1 | refine below_set ?_ GE109.out) | exact HB.out))) : w.heap.size ≤ gb110)); have n5_ := Aside0.mk ((by rw [hg]; exact Nat.ne_of_lt (blk_lt (g := gb109) (o := .cells #[.int .u64 a0_0, .int .u64 a0_1, .int .u64 a0_2, .int .u8 a0_3, .string a0_4, .string a0_5, .int .i64 a0_6, .int .i64 a0_7] 34 (0, 0)) (by (with_reducible repeat (first | refine blk_drewN ?_ _ | refine blk_drew ?_ | refine blk_alloc ?_ _)); exact BK109.out)) : gb109 ≠ gb110)); have n6_ := Aside0.mk ((by rw [hg]; exact Nat.ne_of_gt (blk_lt (g := gb109) (o := .cells #[.int .u64 a0_0, .int .u64 a0_1, .int .u64 a0_2, .int .u8 a0_3, .string a0_4, .string a0_5, .int .i64 a0_6, .int .i64 a0_7] 34 (0, 0)) (by (with_reducible repeat (first | refine blk_drewN ?_ _ | refine blk_drew ?_ | refine blk_alloc ?_ _)); exact BK109.out)) : gb110 ≠ gb109)); clear BK109; clear HB; have BK109 := n0_; have HB := n1_; have BK110 := n2_; have GW110 := n3_; have GE110 := n4_; have NB109_110 := n5_; have NB110_109 := n6_; clear n0_ n1_ n2_ n3_ n4_ n5_ n6_; clear hb hbox hg; have hnb13 := NB109_110.out; have hnc13 := NB110_109.out; have hcz14_0 : w12.cell? ⟨gb109, 0, none⟩ = some (.int .u64 a0_0) := (blk_cell BK109.out 0).trans rfl; have hcz14_1 : w12.cell? ⟨gb109, 1, none⟩ = some (.int .u64 a0_1) := (blk_cell BK109.out 1).trans rfl; have hcz14_2 : w12.cell? ⟨gb109, 2, none⟩ = some (.int .u64 a0_2) := (blk_cell BK109.out 2).trans rfl; have hcz14_3 : w12.cell? ⟨gb109, 3, none⟩ = some (.int .u8 a0_3) := (blk_cell BK109.out 3).trans rfl; have hcz14_4 : w12.cell? ⟨gb109, 4, none⟩ = some (.string a0_4) := (blk_cell BK109.out 4).trans rfl; have hcz14_5 : w12.cell? ⟨gb109, 5, none⟩ = some (.string a0_5) := (blk_cell BK109.out 5).trans rfl; have hcz14_6 : w12.cell? ⟨gb109, 6, none⟩ = some (.int .i64 a0_6) := (blk_cell BK109.out 6).trans rfl; have hcz14_7 : w12.cell? ⟨gb109, 7, none⟩ = some (.int .i64 a0_7) := (blk_cell BK109.out 7).trans rfl; have hfz14_0 := blk_frozen BK109.out 0; have hfz14_1 := blk_frozen BK109.out 1; have hfz14_2 := blk_frozen BK109.out 2; have hfz14_3 := blk_frozen BK109.out 3; have hfz14_4 := blk_frozen BK109.out 4; have hfz14_5 := blk_frozen BK109.out 5; have hfz14_6 := blk_frozen BK109.out 6; have hfz14_7 := blk_frozen BK109.out 7; have hcz15_0 : w12.cell? ⟨gb110, 0, none⟩ = some (.int .u64 a1_0) := (blk_cell BK110.out 0).trans rfl; have hcz15_1 : w12.cell? ⟨gb110, 1, none⟩ = some (.int .u64 a1_1) := (blk_cell BK110.out 1).trans rfl; have hcz15_2 : w12.cell? ⟨gb110, 2, none⟩ = some (.int .u64 a1_2) := (blk_cell BK110.out 2).trans rfl; have hcz15_3 : w12.cell? ⟨gb110, 3, none⟩ = some (.int .u8 a1_3) := (blk_cell BK110.out 3).trans rfl; have hcz15_4 : w12.cell? ⟨gb110, 4, none⟩ = some (.string a1_4) := (blk_cell BK110.out 4).trans rfl; have hcz15_5 : w12.cell? ⟨gb110, 5, none⟩ = some (.string a1_5) := (blk_cell BK110.out 5).trans rfl; have hcz15_6 : w12.cell? ⟨gb110, 6, none⟩ = some (.int .i64 a1_6) := (blk_cell BK110.out 6).trans rfl; have hcz15_7 : w12.cell? ⟨gb110, 7, none⟩ = some (.int .i64 a1_7) := (blk_cell BK110.out 7).trans rfl; have hfz15_0 := blk_frozen BK110.out 0; have hfz15_1 := blk_frozen BK110.out 1; have hfz15_2 := blk_frozen BK110.out 2; have hfz15_3 := blk_frozen BK110.out 3; have hfz15_4 := blk_frozen BK110.out 4; have hfz15_5 := blk_frozen BK110.out 5; have hfz15_6 := blk_frozen BK110.out 6; have hfz15_7 := blk_frozen BK110.out 7) | ((with_reducible refine gate_callee (f := 33) rfl ?_); refine goesL_ (some 28) rfl rfl Try.func33 (by kernel_rfl) rfl #[.int .i64 (wrap64 ((wrap64 (a0_6 + a2)) - a1_6)), .int .i64 a2, .int .i64 (wrap64 ((wrap64 (a2 + a1_7)) - a0_7))] rfl (by (try simp only [List.map_toArray, List.map_cons, List.map_nil]); first | done | rfl | (simp only [List.length_drop, List.length_take]; rfl)) ?_; (with_reducible refine (clamp_between_int64.calls (wrap64 ((wrap64 (a0_6 + a2)) - a1_6)) a2 (wrap64 ((wrap64 (a2 + a1_7)) - a0_7)) t111 _ A10.out).mono ?_); rintro e w16 ⟨rfl, hb⟩; refine ⟨_, rfl, ?_⟩; have n0_ := Aside0.mk (blk_below (g := gb109) (o := .cells #[.int .u64 a0_0, .int .u64 a0_1, .int .u64 a0_2, .int .u8 a0_3, .string a0_4, .string a0_5, .int .i64 a0_6, .int .i64 a0_7] 34 (0, 0)) (by (with_reducible repeat (first | refine blk_drewN ?_ _ | refine blk_drew ?_ | refine blk_alloc ?_ _)); exact BK109.out) hb); have n1_ := Aside0.mk (blk_below (g := gb110) (o := .cells #[.int .u64 a1_0, .int .u64 a1_1, .int .u64 a1_2, .int .u8 a1_3, .string a1_4, .string a1_5, .int .i64 a1_6, .int .i64 a1_7] 34 (0, 0)) (by (with_reducible repeat (first | refine blk_drewN ?_ _ | refine blk_drew ?_ | refine blk_alloc ?_ _)); exact BK110.out) hb); have n2_ := Aside0.mk (below_step (by repeat (first | (with_reducible first | exact HB.out | apply below_alloc | apply pw_below_drewN | apply below_drew1 | refine below_set ?_ GE109.out | refine below_set ?_ GE110.out) | exact HB.out)) hb); clear BK109; clear BK110; clear HB; have BK109 := n0_; have BK110 := n1_; have HB := n2_; clear n0_ n1_ n2_; (try clear hb); (try clear hb2); (try clear hk); (try clear hi)))
    go_ret
    exact ⟨by first | rfl | (simp [errW_none, errW_some] <;> rfl) | (simp [*, errW_none, errW_some] <;> rfl), by repeat (first | (with_reducible first | exact HB.out | apply below_alloc | apply pw_below_drewN | apply below_drew1 | refine below_set ?_ GE109.out | refine below_set ?_ GE110.out) | exact HB.out)⟩

/-! ### clamp_Starts: function 10 -/
def clamp_Starts_st (x y : S34) (a : Int) : Option Int := clamp_start.f x.f0 x.f1 x.f2 x.f3 x.f4 x.f5 x.f6 x.f7 y.f0 y.f1 y.f2 y.f3 y.f4 y.f5 y.f6 y.f7 a
def clamp_Starts_go (l : List S34) : List S42 → List Int → Option (List Int)
  | [], out => some out
  | x :: r, out => if (0 ≤ x.f0 ∧ x.f0 < (l.length : Int)) ∧ out.length = l.length then
      (if 0 ≤ x.f2 then (if x.f2 < (l.length : Int) then (clamp_Starts_st (rd_T34 l x.f0) (rd_T34 l x.f2) (rd (out.set x.f0.toNat (rd_T34 l x.f0).f6) x.f2)).bind fun v => clamp_Starts_go l r ((out.set x.f0.toNat (rd_T34 l x.f0).f6).set x.f0.toNat v) else none)
      else clamp_Starts_go l r (out.set x.f0.toNat (rd_T34 l x.f0).f6)) else none
def clamp_Starts.f (k : Nat) (l0 : List S34) (l1 : List Int) : Option (List Int × Bool) :=
  (clamp_right.f k l0 l1).bind fun t => if t = true then (if l0.length ≤ 1000000 then (forest_Row.f k l1).bind fun its => if its.length ≤ 1000000 then (clamp_Starts_go l0 its (List.replicate l0.length 0)).bind fun o => some (o, true) else none else none) else some ([], false)
theorem clamp_Starts.mono : ∀ a0 a1 k, LeO (clamp_Starts.f k a0 a1) (clamp_Starts.f (k + 1) a0 a1) := by
  intro a0 a1 k
  exact LeO.bind (clamp_right.mono _ _ _) (fun _ => LeO.ite (LeO.ite (LeO.bind (forest_Row.mono _ _) (fun _ => LeO.refl _)) (LeO.refl _)) (LeO.refl _))
set_option maxHeartbeats 8000000 in
set_option maxRecDepth 100000 in
theorem clamp_Starts.calls (k : Nat) (A0 : Option Addr) (c0 : Nat) (l0 : List S34) (A1 : Option Addr) (c1 : Nat) (l1 : List Int) (r1 : List Int) (r2 : Bool) (w : World) (hr0 : Kd.C k34 w A0 l0.length l0) (hc0 : l0.length ≤ c0) (hr1 : Kd.C (Kd.int .i64) w A1 l1.length l1) (hc1 : l1.length ≤ c1) (h : clamp_Starts.f k l0 l1 = some (r1, r2)) :
    Calls Try.prog 10 #[.slice A0 l0.length c0, .slice A1 l1.length c1] w fun e w' => ∃ v0_ : Value, e = .returned (.tuple #[v0_, .bool r2]) ∧ Kd.R (Kd.int .i64) 2 w' w.heap.size (fun _ => True) v0_ r1 ∧ Below w.heap.size w w' := by
  have hu_ := Try.underlying34
  have hui_ := Try.underlying42
  obtain ⟨t, ht, h'⟩ := Option.bind_eq_some_iff.mp h
  clear h
  have h := h'
  clear h'
  have HR0 := Aside0.mk hr0
  have HR1 := Aside0.mk hr1
  have HC0 := Aside0.mk hc0
  have HC1 := Aside0.mk hc1
  have HT := Aside0.mk ht
  clear hr0 hr1 hc0 hc1 ht
  cases t with
  | false =>
    obtain ⟨rfl, rfl⟩ : [] = r1 ∧ false = r2 := by simpa using h
    clear h
    go_enter Try.func10, Try.ntmps10
    go_wp2_with (fail)
    refine (clamp_right.calls k A0 c0 l0 A1 c1 l1 false _ HR0.out HC0.out HR1.out HC1.out HT.out).mono ?_
    rintro e w1 ⟨rfl, hb1⟩
    have HB1 := Aside0.mk hb1
    clear hb1
    go_wp2_with (fail)
    go_ret2
    exact ⟨_, rfl, Kd.R_nil _ _ _ _ _, HB1.out⟩
  | true =>
  rw [if_pos rfl] at h
  by_cases cn : l0.length ≤ 1000000
  case neg => rw [if_neg cn] at h; cases h
  rw [if_pos cn] at h
  obtain ⟨its, hits, h'⟩ := Option.bind_eq_some_iff.mp h
  clear h
  have h := h'
  clear h'
  by_cases cl : its.length ≤ 1000000
  case neg => rw [if_neg cl] at h; cases h
  rw [if_pos cl] at h
  obtain ⟨o, ho, h⟩ := Option.bind_eq_some_iff.mp h
  obtain ⟨rfl, rfl⟩ : o = r1 ∧ true = r2 := by simpa using h
  have HI := Aside0.mk hits
  have HO := Aside0.mk ho
  have hmk := print_make (P := Try.prog) 26 2 .i64 8 Try.underlying26 info2 (by decide) l0.length (by omega)
  clear h hits ho
  go_enter Try.func10, Try.ntmps10
  go_wp2_with (fail)
  refine (clamp_right.calls k A0 c0 l0 A1 c1 l1 true _ HR0.out HC0.out HR1.out HC1.out HT.out).mono ?_
  rintro e w1 ⟨rfl, hb1⟩
  have HB1 := Aside0.mk (below_alloc hb1 (.cells (madeCells #[.int .i64 0] l0.length) 2))
  have HM1 := Aside0.mk (Go.Proofs.Ythlekphkibeflaa.H.rowI_made w1 2 l0.length)
  have HG1 := Aside0.mk hb1.size
  clear hb1
  go_wp2_with (fail)
  refine (forest_Row.calls k A1 c1 l1 its _ (Kd.C_below HR1.out HB1.out) HC1.out HI.out).mono ?_
  rintro e w2 ⟨v17, rfl, h17, hb2⟩
  obtain ⟨A17, c17, rfl⟩ := Kd.R_slice h17
  have H17 := Aside0.mk (Kd.R_lower h17 (show w1.heap.size + 1 ≤ (w1.alloc (.cells (madeCells #[.int .i64 0] l0.length) 2)).heap.size by simp))
  have HB2 := Aside0.mk (below_step HB1.out hb2)
  have HM2 := Aside0.mk (Go.Proofs.Ythlekphkibeflaa.H.rowI_same HM1.out (hb2.block _ (Go.Proofs.Ythlekphkibeflaa.H.rowI_lt HM1.out)))
  clear h17 hb2 HB1 HM1 hmk
  generalize w1.heap.size = g at HG1 H17 HM2 ⊢
  go_wp2_with (fail)
  go_loopg [19] its.length (fun d v19 wr => ∃ (i : Nat) (out : List Int), i + d = its.length ∧ v19 = .int .i64 i ∧ Aside0 (clamp_Starts_go l0 (its.drop i) out = some o) ∧ Aside0 (out.length = l0.length) ∧ Aside0 (Below w.heap.size w wr) ∧ Aside0 (Go.Proofs.Ythlekphkibeflaa.H.rowI wr g 2 out) ∧ Aside0 (Kd.R k42 42 wr (g + 1) (fun _ => True) (.slice A17 its.length c17) its))
  case atStart => exact ⟨0, List.replicate l0.length 0, by omega, rfl, HO, ⟨by simp⟩, HB2, HM2, H17⟩
  case round =>
    clear HO HB2 HM2 H17
    obtain ⟨i, out, hi, rfl, HG, HL, HB, HM, HI⟩ := hrel
    by_cases hlt : i < its.length
    · have hltz : (i : Int) < (its.length : Int) := by omega
      obtain ⟨ad, e, y0, y1, y2⟩ := at_T42 (Kd.R_reads' HI.out).2.2 (i : Int) (by omega) hltz
      cases e
      simp only [Int.toNat_natCast] at y0 y1 y2
      have hy : rd_T42 its (i : Int) = its[i] := by show its.getD _ _ = _; simp [List.getD_eq_getElem?_getD, List.getElem?_eq_getElem hlt]
      rw [hy] at y0 y1 y2
      have hg := HG.out
      rw [List.drop_eq_getElem_cons hlt] at hg
      clear hy HG
      generalize its[i] = x at y0 y1 y2 hg
      unfold clamp_Starts_go at hg
      by_cases cx : (0 ≤ x.f0 ∧ x.f0 < (l0.length : Int)) ∧ out.length = l0.length
      case neg => rw [if_neg cx] at hg; cases hg
      rw [if_pos cx] at hg
      obtain ⟨⟨x0, x1⟩, xl⟩ := cx
      obtain ⟨ad0, e, q0, q1, q2, q3, q4, q5, q6, q7⟩ := at_T34 HR0.out x.f0 x0 x1
      cases e
      obtain ⟨s, hs⟩ : ∃ s, rd_T34 l0 x.f0 = s := ⟨_, rfl⟩
      rw [hs] at q0 q1 q2 q3 q4 q5 q6 q7 hg
      have HS := Aside0.mk hs
      have HH := Aside0.mk hg
      have HXa := Aside0.mk q0
      have HXb := Aside0.mk q1
      have HXc := Aside0.mk q2
      have HXd := Aside0.mk q3
      have HXe := Aside0.mk q4
      have HXf := Aside0.mk q5
      have HXg := Aside0.mk q6
      have HXh := Aside0.mk q7
      clear hs hg q0 q1 q2 q3 q4 q5 q6 q7
      have HX0 := Aside0.mk x0
      have HX1 := Aside0.mk x1
      have x0b := decide_eq_true x0
      have x1b := decide_eq_true x1
      have x0c := eq_true x0
      have x1c := eq_true x1
      have hxl : x.f0 < (out.length : Int) := by rw [xl]; exact x1
      have HGL := Aside0.mk (Go.Proofs.Ythlekphkibeflaa.H.rowI_lt HM.out)
      have HB1 := Aside0.mk (below_alloc HB.out (.cells #[.int .i64 x.f0, .int .i64 x.f1, .int .i64 x.f2] 42 (0, 0)))
      have HM1 := Aside0.mk (Go.Proofs.Ythlekphkibeflaa.H.rowI_same HM.out ((below_alloc (Below.refl wr.heap.size wr) (.cells #[.int .i64 x.f0, .int .i64 x.f1, .int .i64 x.f2] 42 (0, 0))).block _ HGL.out))
      have HK1 := Aside0.mk (blk_new wr (.cells #[.int .i64 x.f0, .int .i64 x.f1, .int .i64 x.f2] 42 (0, 0)))
      have HI1 := Aside0.mk (Kd.R_alloc HI.out (.cells #[.int .i64 x.f0, .int .i64 x.f1, .int .i64 x.f2] 42 (0, 0)))
      clear HB HM HI
      go_wp2_with (fail)
      clear y0 y1 y2
      generalize hW : wr.alloc (.cells #[.int .i64 x.f0, .int .i64 x.f1, .int .i64 x.f2] 42 (0, 0)) = W1 at HB1 HM1 HK1 HI1 ⊢
      have hne : wr.heap.size ≠ g := Nat.ne_of_gt HGL.out
      generalize wr.heap.size = B at HK1 hne ⊢
      clear hW HGL
      have hp0 : W1.cell? ⟨B, 0, none⟩ = some (.int .i64 x.f0) := (blk_cell HK1.out 0).trans rfl
      have hp2 : W1.cell? ⟨B, 2, none⟩ = some (.int .i64 x.f2) := (blk_cell HK1.out 2).trans rfl
      have hs6 := (HB1.out.cell (World.block_lt_of_cell? w _ HXg.out)).trans HXg.out
      have hfz := Go.Proofs.Ythlekphkibeflaa.H.rowI_frozen HM1.out x.f0.toNat
      have hq := Go.Proofs.Ythlekphkibeflaa.H.rowI_rd HM1.out x.f0 x0 hxl
      refine start_ (n := 11) (S := fun w' => w'.cell? ⟨B, 0, none⟩ = some (.int .i64 x.f0) ∧ w'.cell? ⟨(ad0.add (x.f0.toNat * 8)).block, (ad0.add (x.f0.toNat * 8)).off + 6, none⟩ = some (.int .i64 s.f6) ∧ True ∧ True) (ds := [10]) #[false, false, false, false, false, false, false, false, false, false, false] (by kernel_rfl) rfl rfl ⟨hp0, hs6, trivial, trivial⟩ (fun hHeld => ?_)
      refine pure_ (i := 0) (N := some 23) (v := ?_) (a' := ?_) #[true, false, false, false, false, false, false, false, false, false, false] rfl rfl (by kernel_rfl) (fun _ _ _ h => h) (Or.inl ⟨by rfl, ?_⟩) ?_ ?_
      rotate_left
      · intro w'
        go_simp
        with_reducible rfl
      rotate_left
      · simp only [Act.put, List.setIfInBounds_toArray, List.set_cons_zero, List.set_cons_succ, i64_w, i32_w]
        rfl
      refine pure_ (i := 1) (N := some 24) (v := ?_) (a' := ?_) #[true, true, false, false, false, false, false, false, false, false, false] rfl rfl (by kernel_rfl) (fun _ _ _ h => h) (Or.inl ⟨by rfl, ?_⟩) ?_ ?_
      rotate_left
      · intro w'
        go_simp
        with_reducible rfl
      rotate_left
      · simp only [Act.put, List.setIfInBounds_toArray, List.set_cons_zero, List.set_cons_succ, i64_w, i32_w]
        rfl
      refine pure_ (i := 3) (N := some 26) (v := ?_) (a' := ?_) #[true, true, false, true, false, false, false, false, false, false, false] rfl rfl (by kernel_rfl) (fun _ _ _ h => h) (Or.inl ⟨by rfl, ?_⟩) ?_ ?_
      rotate_left
      · intro w'
        go_simp
        with_reducible rfl
      rotate_left
      · simp only [Act.put, List.setIfInBounds_toArray, List.set_cons_zero, List.set_cons_succ, i64_w, i32_w]
        rfl
      refine pure_ (i := 4) (N := some 27) (v := ?_) (a' := ?_) #[true, true, false, true, true, false, false, false, false, false, false] rfl rfl (by kernel_rfl) (fun _ _ _ h => h) (Or.inl ⟨by rfl, ?_⟩) ?_ ?_
      rotate_left
      · intro w'
        go_simp
        with_reducible rfl
      rotate_left
      · simp only [Act.put, List.setIfInBounds_toArray, List.set_cons_zero, List.set_cons_succ, i64_w, i32_w]
        rfl
      refine take_ (i := 2) (N := some 25) (v := ?_) (a' := ?_) #[true, true, true, true, true, false, false, false, false, false, false] rfl rfl (by kernel_rfl) (fun _ _ _ h => h) (Or.inl ⟨by rfl, ?_⟩) hHeld ?_ ?_
      rotate_left
      · rintro w' ⟨s0, s1, s2, s3⟩
        go_simp
        with_reducible rfl
      rotate_left
      · simp only [Act.put, List.setIfInBounds_toArray, List.set_cons_zero, List.set_cons_succ, i64_w, i32_w]
        rfl
      refine take_ (i := 5) (N := some 28) (v := ?_) (a' := ?_) #[true, true, true, true, true, true, false, false, false, false, false] rfl rfl (by kernel_rfl) (fun _ _ _ h => h) (Or.inl ⟨by rfl, ?_⟩) hHeld ?_ ?_
      rotate_left
      · rintro w' ⟨s0, s1, s2, s3⟩
        go_simp
        with_reducible rfl
      rotate_left
      · simp only [Act.put, List.setIfInBounds_toArray, List.set_cons_zero, List.set_cons_succ, i64_w, i32_w]
        rfl
      refine pure_ (i := 6) (N := some 29) (v := ?_) (a' := ?_) #[true, true, true, true, true, true, true, false, false, false, false] rfl rfl (by kernel_rfl) (fun _ _ _ h => h) (Or.inl ⟨by rfl, ?_⟩) ?_ ?_
      rotate_left
      · intro w'
        go_simp
        with_reducible rfl
      rotate_left
      · simp only [Act.put, List.setIfInBounds_toArray, List.set_cons_zero, List.set_cons_succ, i64_w, i32_w]
        rfl
      refine pure_ (i := 7) (N := some 30) (v := ?_) (a' := ?_) #[true, true, true, true, true, true, true, true, false, false, false] rfl rfl (by kernel_rfl) (fun _ _ _ h => h) (Or.inl ⟨by rfl, ?_⟩) ?_ ?_
      rotate_left
      · intro w'
        go_simp
        with_reducible rfl
      rotate_left
      · simp only [Act.put, List.setIfInBounds_toArray, List.set_cons_zero, List.set_cons_succ, i64_w, i32_w]
        rfl
      refine take_ (i := 8) (N := some 31) (v := ?_) (a' := ?_) #[true, true, true, true, true, true, true, true, true, false, false] rfl rfl (by kernel_rfl) (fun _ _ _ h => h) (Or.inl ⟨by rfl, ?_⟩) hHeld ?_ ?_
      rotate_left
      · rintro w' ⟨s0, s1, s2, s3⟩
        go_simp
        with_reducible rfl
      rotate_left
      · simp only [Act.put, List.setIfInBounds_toArray, List.set_cons_zero, List.set_cons_succ, i64_w, i32_w]
        rfl
      refine pure_ (i := 9) (N := some 32) (v := ?_) (a' := ?_) #[true, true, true, true, true, true, true, true, true, true, false] rfl rfl (by kernel_rfl) (fun _ _ _ h => h) (Or.inl ⟨by rfl, ?_⟩) ?_ ?_
      rotate_left
      · intro w'
        go_simp
        with_reducible rfl
      rotate_left
      · simp only [Act.put, List.setIfInBounds_toArray, List.set_cons_zero, List.set_cons_succ, i64_w, i32_w]
        rfl
      refine last_ (i := 10) (N := none) #[true, true, true, true, true, true, true, true, true, true, true] rfl rfl (by kernel_rfl) (by decide) (fun K hK => ?_)
      refine skip_ (w1 := ?_) (by rfl) rfl ?_ ?_
      rotate_left
      · (go_simp; rfl)
      refine hK.out _ _ ?_
      clear hK K
      refine done_ (by kernel_rfl) ?_
      have HM2 := Aside0.mk (show Go.Proofs.Ythlekphkibeflaa.H.rowI (W1.setCell ⟨g, x.f0.toNat, none⟩ (.int .i64 s.f6)).drew g 2 (out.set x.f0.toNat s.f6) from ⟨blk_drew (Go.Proofs.Ythlekphkibeflaa.H.rowI_set HM1.out x.f0.toNat s.f6).blk⟩)
      have HB2 := Aside0.mk (show Below w.heap.size w (W1.setCell ⟨g, x.f0.toNat, none⟩ (.int .i64 s.f6)).drew from below_drew1 (below_set HB1.out HG1.out))
      have HK2 := Aside0.mk (blk_drew (blk_far HK1.out (p := ⟨g, x.f0.toNat, none⟩) hne (.int .i64 s.f6)))
      have HI2 := Aside0.mk (Kd.R_drew (Kd.R_set HI1.out HM1.out.blk (by decide) x.f0.toNat (.int .i64 s.f6)))
      clear hHeld hp0 hp2 hs6 hfz HM1 HB1 HK1 HI1 hq
      generalize (W1.setCell ⟨g, x.f0.toNat, none⟩ (.int .i64 s.f6)).drew = W2 at HM2 HB2 HK2 HI2 ⊢
      have hp2 : W2.cell? ⟨B, 2, none⟩ = some (.int .i64 x.f2) := (blk_cell HK2.out 2).trans rfl
      have hg := HH.out
      clear HH
      by_cases cp : 0 ≤ x.f2
      · rw [if_pos cp] at hg
        by_cases cq : x.f2 < (l0.length : Int)
        case neg => rw [if_neg cq] at hg; cases hg
        rw [if_pos cq] at hg
        obtain ⟨v, hv, h'⟩ := Option.bind_eq_some_iff.mp hg
        clear hg
        have hg := h'
        clear h'
        obtain ⟨ad2, e, r0, r1, r2, r3, r4, r5, r6, r7⟩ := at_T34 HR0.out x.f2 cp cq
        cases e
        obtain ⟨u, hu⟩ : ∃ u, rd_T34 l0 x.f2 = u := ⟨_, rfl⟩
        rw [hu] at r0 r1 r2 r3 r4 r5 r6 r7 hv
        have HU := Aside0.mk hu
        have HV := Aside0.mk hv
        have HH := Aside0.mk hg
        have HYa := Aside0.mk r0
        have HYb := Aside0.mk r1
        have HYc := Aside0.mk r2
        have HYd := Aside0.mk r3
        have HYe := Aside0.mk r4
        have HYf := Aside0.mk r5
        have HYg := Aside0.mk r6
        have HYh := Aside0.mk r7
        clear hu hv hg r0 r1 r2 r3 r4 r5 r6 r7
        have cpb := decide_eq_true cp
        have cpc := eq_true cp
        have cqb := decide_eq_true cq
        have cqc := eq_true cq
        go_wp2_with (fail)
        clear hp2
        have hp0 : W2.cell? ⟨B, 0, none⟩ = some (.int .i64 x.f0) := (blk_cell HK2.out 0).trans rfl
        have hp2 : W2.cell? ⟨B, 2, none⟩ = some (.int .i64 x.f2) := (blk_cell HK2.out 2).trans rfl
        obtain ⟨z, hz⟩ : ∃ z, z = rd (out.set x.f0.toNat s.f6) x.f2 := ⟨_, rfl⟩
        have hq : W2.cell? ⟨g, x.f2.toNat, none⟩ = some (.int .i64 z) := by rw [hz]; exact Go.Proofs.Ythlekphkibeflaa.H.rowI_rd HM2.out x.f2 cp (by rw [List.length_set, xl]; exact cq)
        have HV2 := Aside0.mk (show clamp_Starts_st s u z = some v by rw [hz]; exact HV.out)
        have HZ := Aside0.mk hz
        clear hz HV
        have ha0 := (HB2.out.cell (World.block_lt_of_cell? w _ HXa.out)).trans HXa.out
        have ha1 := (HB2.out.cell (World.block_lt_of_cell? w _ HXb.out)).trans HXb.out
        have ha2 := (HB2.out.cell (World.block_lt_of_cell? w _ HXc.out)).trans HXc.out
        have ha3 := (HB2.out.cell (World.block_lt_of_cell? w _ HXd.out)).trans HXd.out
        have ha4 := (HB2.out.cell (World.block_lt_of_cell? w _ HXe.out)).trans HXe.out
        have ha5 := (HB2.out.cell (World.block_lt_of_cell? w _ HXf.out)).trans HXf.out
        have ha6 := (HB2.out.cell (World.block_lt_of_cell? w _ HXg.out)).trans HXg.out
        have ha7 := (HB2.out.cell (World.block_lt_of_cell? w _ HXh.out)).trans HXh.out
        have hb0 := (HB2.out.cell (World.block_lt_of_cell? w _ HYa.out)).trans HYa.out
        have hb1 := (HB2.out.cell (World.block_lt_of_cell? w _ HYb.out)).trans HYb.out
        have hb2 := (HB2.out.cell (World.block_lt_of_cell? w _ HYc.out)).trans HYc.out
        have hb3 := (HB2.out.cell (World.block_lt_of_cell? w _ HYd.out)).trans HYd.out
        have hb4 := (HB2.out.cell (World.block_lt_of_cell? w _ HYe.out)).trans HYe.out
        have hb5 := (HB2.out.cell (World.block_lt_of_cell? w _ HYf.out)).trans HYf.out
        have hb6 := (HB2.out.cell (World.block_lt_of_cell? w _ HYg.out)).trans HYg.out
        have hb7 := (HB2.out.cell (World.block_lt_of_cell? w _ HYh.out)).trans HYh.out
        refine start_ (n := 21) (S := fun w' => w'.cell? ⟨B, 0, none⟩ = some (.int .i64 x.f0) ∧ w'.cell? ⟨B, 2, none⟩ = some (.int .i64 x.f2) ∧ w'.cell? ⟨g, x.f2.toNat, none⟩ = some (.int .i64 z) ∧ w'.cell? (ad0.add (x.f0.toNat * 8)) = some (.int .u64 s.f0) ∧ w'.cell? ⟨(ad0.add (x.f0.toNat * 8)).block, (ad0.add (x.f0.toNat * 8)).off + 1, none⟩ = some (.int .u64 s.f1) ∧ w'.cell? ⟨(ad0.add (x.f0.toNat * 8)).block, (ad0.add (x.f0.toNat * 8)).off + 2, none⟩ = some (.int .u64 s.f2) ∧ w'.cell? ⟨(ad0.add (x.f0.toNat * 8)).block, (ad0.add (x.f0.toNat * 8)).off + 3, none⟩ = some (.int .u8 s.f3) ∧ w'.cell? ⟨(ad0.add (x.f0.toNat * 8)).block, (ad0.add (x.f0.toNat * 8)).off + 4, none⟩ = some (.string s.f4) ∧ w'.cell? ⟨(ad0.add (x.f0.toNat * 8)).block, (ad0.add (x.f0.toNat * 8)).off + 5, none⟩ = some (.string s.f5) ∧ w'.cell? ⟨(ad0.add (x.f0.toNat * 8)).block, (ad0.add (x.f0.toNat * 8)).off + 6, none⟩ = some (.int .i64 s.f6) ∧ w'.cell? ⟨(ad0.add (x.f0.toNat * 8)).block, (ad0.add (x.f0.toNat * 8)).off + 7, none⟩ = some (.int .i64 s.f7) ∧ w'.cell? (ad0.add (x.f2.toNat * 8)) = some (.int .u64 u.f0) ∧ w'.cell? ⟨(ad0.add (x.f2.toNat * 8)).block, (ad0.add (x.f2.toNat * 8)).off + 1, none⟩ = some (.int .u64 u.f1) ∧ w'.cell? ⟨(ad0.add (x.f2.toNat * 8)).block, (ad0.add (x.f2.toNat * 8)).off + 2, none⟩ = some (.int .u64 u.f2) ∧ w'.cell? ⟨(ad0.add (x.f2.toNat * 8)).block, (ad0.add (x.f2.toNat * 8)).off + 3, none⟩ = some (.int .u8 u.f3) ∧ w'.cell? ⟨(ad0.add (x.f2.toNat * 8)).block, (ad0.add (x.f2.toNat * 8)).off + 4, none⟩ = some (.string u.f4) ∧ w'.cell? ⟨(ad0.add (x.f2.toNat * 8)).block, (ad0.add (x.f2.toNat * 8)).off + 5, none⟩ = some (.string u.f5) ∧ w'.cell? ⟨(ad0.add (x.f2.toNat * 8)).block, (ad0.add (x.f2.toNat * 8)).off + 6, none⟩ = some (.int .i64 u.f6) ∧ w'.cell? ⟨(ad0.add (x.f2.toNat * 8)).block, (ad0.add (x.f2.toNat * 8)).off + 7, none⟩ = some (.int .i64 u.f7)) (ds := [20]) #[false, false, false, false, false, false, false, false, false, false, false, false, false, false, false, false, false, false, false, false, false] (by kernel_rfl) rfl rfl ⟨hp0, hp2, hq, ha0, ha1, ha2, ha3, ha4, ha5, ha6, ha7, hb0, hb1, hb2, hb3, hb4, hb5, hb6, hb7⟩ (fun hHeld => ?_)
        refine pure_ (i := 0) (N := some 36) (v := ?_) (a' := ?_) #[true, false, false, false, false, false, false, false, false, false, false, false, false, false, false, false, false, false, false, false, false] rfl rfl (by kernel_rfl) (fun _ _ _ h => h) (Or.inl ⟨by rfl, ?_⟩) ?_ ?_
        rotate_left
        · intro w'
          go_simp
          with_reducible rfl
        rotate_left
        · simp only [Act.put, List.setIfInBounds_toArray, List.set_cons_zero, List.set_cons_succ, i64_w, i32_w]
          rfl
        refine pure_ (i := 1) (N := some 37) (v := ?_) (a' := ?_) #[true, true, false, false, false, false, false, false, false, false, false, false, false, false, false, false, false, false, false, false, false] rfl rfl (by kernel_rfl) (fun _ _ _ h => h) (Or.inl ⟨by rfl, ?_⟩) ?_ ?_
        rotate_left
        · intro w'
          go_simp
          with_reducible rfl
        rotate_left
        · simp only [Act.put, List.setIfInBounds_toArray, List.set_cons_zero, List.set_cons_succ, i64_w, i32_w]
          rfl
        refine pure_ (i := 3) (N := some 39) (v := ?_) (a' := ?_) #[true, true, false, true, false, false, false, false, false, false, false, false, false, false, false, false, false, false, false, false, false] rfl rfl (by kernel_rfl) (fun _ _ _ h => h) (Or.inl ⟨by rfl, ?_⟩) ?_ ?_
        rotate_left
        · intro w'
          go_simp
          with_reducible rfl
        rotate_left
        · simp only [Act.put, List.setIfInBounds_toArray, List.set_cons_zero, List.set_cons_succ, i64_w, i32_w]
          rfl
        refine pure_ (i := 4) (N := some 40) (v := ?_) (a' := ?_) #[true, true, false, true, true, false, false, false, false, false, false, false, false, false, false, false, false, false, false, false, false] rfl rfl (by kernel_rfl) (fun _ _ _ h => h) (Or.inl ⟨by rfl, ?_⟩) ?_ ?_
        rotate_left
        · intro w'
          go_simp
          with_reducible rfl
        rotate_left
        · simp only [Act.put, List.setIfInBounds_toArray, List.set_cons_zero, List.set_cons_succ, i64_w, i32_w]
          rfl
        refine pure_ (i := 8) (N := some 44) (v := ?_) (a' := ?_) #[true, true, false, true, true, false, false, false, true, false, false, false, false, false, false, false, false, false, false, false, false] rfl rfl (by kernel_rfl) (fun _ _ _ h => h) (Or.inl ⟨by rfl, ?_⟩) ?_ ?_
        rotate_left
        · intro w'
          go_simp
          with_reducible rfl
        rotate_left
        · simp only [Act.put, List.setIfInBounds_toArray, List.set_cons_zero, List.set_cons_succ, i64_w, i32_w]
          rfl
        refine pure_ (i := 9) (N := some 45) (v := ?_) (a' := ?_) #[true, true, false, true, true, false, false, false, true, true, false, false, false, false, false, false, false, false, false, false, false] rfl rfl (by kernel_rfl) (fun _ _ _ h => h) (Or.inl ⟨by rfl, ?_⟩) ?_ ?_
        rotate_left
        · intro w'
          go_simp
          with_reducible rfl
        rotate_left
        · simp only [Act.put, List.setIfInBounds_toArray, List.set_cons_zero, List.set_cons_succ, i64_w, i32_w]
          rfl
        refine pure_ (i := 13) (N := some 49) (v := ?_) (a' := ?_) #[true, true, false, true, true, false, false, false, true, true, false, false, false, true, false, false, false, false, false, false, false] rfl rfl (by kernel_rfl) (fun _ _ _ h => h) (Or.inl ⟨by rfl, ?_⟩) ?_ ?_
        rotate_left
        · intro w'
          go_simp
          with_reducible rfl
        rotate_left
        · simp only [Act.put, List.setIfInBounds_toArray, List.set_cons_zero, List.set_cons_succ, i64_w, i32_w]
          rfl
        refine pure_ (i := 14) (N := some 50) (v := ?_) (a' := ?_) #[true, true, false, true, true, false, false, false, true, true, false, false, false, true, true, false, false, false, false, false, false] rfl rfl (by kernel_rfl) (fun _ _ _ h => h) (Or.inl ⟨by rfl, ?_⟩) ?_ ?_
        rotate_left
        · intro w'
          go_simp
          with_reducible rfl
        rotate_left
        · simp only [Act.put, List.setIfInBounds_toArray, List.set_cons_zero, List.set_cons_succ, i64_w, i32_w]
          rfl
        refine take_ (i := 2) (N := some 38) (v := ?_) (a' := ?_) #[true, true, true, true, true, false, false, false, true, true, false, false, false, true, true, false, false, false, false, false, false] rfl rfl (by kernel_rfl) (fun _ _ _ h => h) (Or.inl ⟨by rfl, ?_⟩) hHeld ?_ ?_
        rotate_left
        · rintro w' ⟨s0, s1, s2, s3, s4, s5, s6, s7, s8, s9, s10, s11, s12, s13, s14, s15, s16, s17, s18⟩
          go_simp
          with_reducible rfl
        rotate_left
        · simp only [Act.put, List.setIfInBounds_toArray, List.set_cons_zero, List.set_cons_succ, i64_w, i32_w]
          rfl
        refine take_ (i := 5) (N := some 41) (v := ?_) (a' := ?_) #[true, true, true, true, true, true, false, false, true, true, false, false, false, true, true, false, false, false, false, false, false] rfl rfl (by kernel_rfl) (fun _ _ _ h => h) (Or.inl ⟨by rfl, ?_⟩) hHeld ?_ ?_
        rotate_left
        · rintro w' ⟨s0, s1, s2, s3, s4, s5, s6, s7, s8, s9, s10, s11, s12, s13, s14, s15, s16, s17, s18⟩
          go_simp
          with_reducible rfl
        rotate_left
        · simp only [Act.put, List.setIfInBounds_toArray, List.set_cons_zero, List.set_cons_succ, i64_w, i32_w]
          rfl
        refine pure_ (i := 6) (N := some 42) (v := ?_) (a' := ?_) #[true, true, true, true, true, true, true, false, true, true, false, false, false, true, true, false, false, false, false, false, false] rfl rfl (by kernel_rfl) (fun _ _ _ h => h) (Or.inl ⟨by rfl, ?_⟩) ?_ ?_
        rotate_left
        · intro w'
          go_simp
          with_reducible rfl
        rotate_left
        · simp only [Act.put, List.setIfInBounds_toArray, List.set_cons_zero, List.set_cons_succ, i64_w, i32_w]
          rfl
        refine take_ (i := 7) (N := some 43) (v := ?_) (a' := ?_) #[true, true, true, true, true, true, true, true, true, true, false, false, false, true, true, false, false, false, false, false, false] rfl rfl (by kernel_rfl) (fun _ _ _ h => h) (Or.inl ⟨by rfl, ?_⟩) hHeld ?_ ?_
        rotate_left
        · rintro w' ⟨s0, s1, s2, s3, s4, s5, s6, s7, s8, s9, s10, s11, s12, s13, s14, s15, s16, s17, s18⟩
          go_simp
          with_reducible rfl
        rotate_left
        · simp only [Act.put, List.setIfInBounds_toArray, List.set_cons_zero, List.set_cons_succ, i64_w, i32_w]
          rfl
        refine take_ (i := 10) (N := some 46) (v := ?_) (a' := ?_) #[true, true, true, true, true, true, true, true, true, true, true, false, false, true, true, false, false, false, false, false, false] rfl rfl (by kernel_rfl) (fun _ _ _ h => h) (Or.inl ⟨by rfl, ?_⟩) hHeld ?_ ?_
        rotate_left
        · rintro w' ⟨s0, s1, s2, s3, s4, s5, s6, s7, s8, s9, s10, s11, s12, s13, s14, s15, s16, s17, s18⟩
          go_simp
          with_reducible rfl
        rotate_left
        · simp only [Act.put, List.setIfInBounds_toArray, List.set_cons_zero, List.set_cons_succ, i64_w, i32_w]
          rfl
        refine pure_ (i := 11) (N := some 47) (v := ?_) (a' := ?_) #[true, true, true, true, true, true, true, true, true, true, true, true, false, true, true, false, false, false, false, false, false] rfl rfl (by kernel_rfl) (fun _ _ _ h => h) (Or.inl ⟨by rfl, ?_⟩) ?_ ?_
        rotate_left
        · intro w'
          go_simp
          with_reducible rfl
        rotate_left
        · simp only [Act.put, List.setIfInBounds_toArray, List.set_cons_zero, List.set_cons_succ, i64_w, i32_w]
          rfl
        refine take_ (i := 12) (N := some 48) (v := ?_) (a' := ?_) #[true, true, true, true, true, true, true, true, true, true, true, true, true, true, true, false, false, false, false, false, false] rfl rfl (by kernel_rfl) (fun _ _ _ h => h) (Or.inl ⟨by rfl, ?_⟩) hHeld ?_ ?_
        rotate_left
        · rintro w' ⟨s0, s1, s2, s3, s4, s5, s6, s7, s8, s9, s10, s11, s12, s13, s14, s15, s16, s17, s18⟩
          go_simp
          with_reducible rfl
        rotate_left
        · simp only [Act.put, List.setIfInBounds_toArray, List.set_cons_zero, List.set_cons_succ, i64_w, i32_w]
          rfl
        refine take_ (i := 15) (N := some 51) (v := ?_) (a' := ?_) #[true, true, true, true, true, true, true, true, true, true, true, true, true, true, true, true, false, false, false, false, false] rfl rfl (by kernel_rfl) (fun _ _ _ h => h) (Or.inl ⟨by rfl, ?_⟩) hHeld ?_ ?_
        rotate_left
        · rintro w' ⟨s0, s1, s2, s3, s4, s5, s6, s7, s8, s9, s10, s11, s12, s13, s14, s15, s16, s17, s18⟩
          go_simp
          with_reducible rfl
        rotate_left
        · simp only [Act.put, List.setIfInBounds_toArray, List.set_cons_zero, List.set_cons_succ, i64_w, i32_w]
          rfl
        refine pure_ (i := 16) (N := some 52) (v := ?_) (a' := ?_) #[true, true, true, true, true, true, true, true, true, true, true, true, true, true, true, true, true, false, false, false, false] rfl rfl (by kernel_rfl) (fun _ _ _ h => h) (Or.inl ⟨by rfl, ?_⟩) ?_ ?_
        rotate_left
        · intro w'
          go_simp
          with_reducible rfl
        rotate_left
        · simp only [Act.put, List.setIfInBounds_toArray, List.set_cons_zero, List.set_cons_succ, i64_w, i32_w]
          rfl
        refine take_ (i := 17) (N := some 53) (v := ?_) (a' := ?_) #[true, true, true, true, true, true, true, true, true, true, true, true, true, true, true, true, true, true, false, false, false] rfl rfl (by kernel_rfl) (fun _ _ _ h => h) (Or.inl ⟨by rfl, ?_⟩) hHeld ?_ ?_
        rotate_left
        · rintro w' ⟨s0, s1, s2, s3, s4, s5, s6, s7, s8, s9, s10, s11, s12, s13, s14, s15, s16, s17, s18⟩
          go_simp
          with_reducible rfl
        rotate_left
        · simp only [Act.put, List.setIfInBounds_toArray, List.set_cons_zero, List.set_cons_succ, i64_w, i32_w]
          rfl
        refine one_ (i := 18) (N := some 54) #[true, true, true, true, true, true, true, true, true, true, true, true, true, true, true, true, true, true, true, false, false] rfl rfl (by kernel_rfl) (by decide) (fun K hK => ?_)
        refine goes_ Try.func21 (by kernel_rfl) rfl #[.agg #[.int .u64 s.f0, .int .u64 s.f1, .int .u64 s.f2, .int .u8 s.f3, .string s.f4, .string s.f5, .int .i64 s.f6, .int .i64 s.f7], .agg #[.int .u64 u.f0, .int .u64 u.f1, .int .u64 u.f2, .int .u8 u.f3, .string u.f4, .string u.f5, .int .i64 u.f6, .int .i64 u.f7], .int .i64 z] (by rfl) rfl rfl (by (try simp only [List.map_toArray, List.map_cons, List.map_nil]); first | done | rfl | (simp only [List.length_drop, List.length_take]; rfl)) ?_
        with_reducible refine (clamp_start.calls s.f0 s.f1 s.f2 s.f3 s.f4 s.f5 s.f6 s.f7 u.f0 u.f1 u.f2 u.f3 u.f4 u.f5 u.f6 u.f7 z v _ (show clamp_start.f s.f0 s.f1 s.f2 s.f3 s.f4 s.f5 s.f6 s.f7 u.f0 u.f1 u.f2 u.f3 u.f4 u.f5 u.f6 u.f7 z = some v from by have h_ := HV2.out; unfold clamp_Starts_st at h_; exact h_)).mono ?_
        rintro e w4 ⟨rfl, hb4⟩
        refine ⟨_, rfl, ?_⟩
        have HB4 := Aside0.mk hb4
        clear hb4
        have hp0' := (blk_cell (blk_below (blk_drew HK2.out) HB4.out) 0).trans rfl
        have hq1' := Go.Proofs.Ythlekphkibeflaa.H.rowI_cell (Go.Proofs.Ythlekphkibeflaa.H.rowI_same (Go.Proofs.Ythlekphkibeflaa.H.rowI_drewN HM2.out 1) (HB4.out.block _ (Go.Proofs.Ythlekphkibeflaa.H.rowI_lt (Go.Proofs.Ythlekphkibeflaa.H.rowI_drewN HM2.out 1)))) x.f0 x0 (by rw [List.length_set]; exact hxl)
        have hfz1 := Go.Proofs.Ythlekphkibeflaa.H.rowI_frozen (Go.Proofs.Ythlekphkibeflaa.H.rowI_same (Go.Proofs.Ythlekphkibeflaa.H.rowI_drewN HM2.out 1) (HB4.out.block _ (Go.Proofs.Ythlekphkibeflaa.H.rowI_lt (Go.Proofs.Ythlekphkibeflaa.H.rowI_drewN HM2.out 1)))) x.f0.toNat
        refine hK.out _ _ ⟨((blk_cell (blk_below (blk_drew HK2.out) HB4.out) 0).trans rfl), ((blk_cell (blk_below (blk_drew HK2.out) HB4.out) 2).trans rfl), ((HB4.out.cell (World.block_lt_of_cell? W2 _ hq)).trans hq), ((HB4.out.cell (World.block_lt_of_cell? _ _ ha0)).trans ha0), ((HB4.out.cell (World.block_lt_of_cell? _ _ ha1)).trans ha1), ((HB4.out.cell (World.block_lt_of_cell? _ _ ha2)).trans ha2), ((HB4.out.cell (World.block_lt_of_cell? _ _ ha3)).trans ha3), ((HB4.out.cell (World.block_lt_of_cell? _ _ ha4)).trans ha4), ((HB4.out.cell (World.block_lt_of_cell? _ _ ha5)).trans ha5), ((HB4.out.cell (World.block_lt_of_cell? _ _ ha6)).trans ha6), ((HB4.out.cell (World.block_lt_of_cell? _ _ ha7)).trans ha7), ((HB4.out.cell (World.block_lt_of_cell? _ _ hb0)).trans hb0), ((HB4.out.cell (World.block_lt_of_cell? _ _ hb1)).trans hb1), ((HB4.out.cell (World.block_lt_of_cell? _ _ hb2)).trans hb2), ((HB4.out.cell (World.block_lt_of_cell? _ _ hb3)).trans hb3), ((HB4.out.cell (World.block_lt_of_cell? _ _ hb4)).trans hb4), ((HB4.out.cell (World.block_lt_of_cell? _ _ hb5)).trans hb5), ((HB4.out.cell (World.block_lt_of_cell? _ _ hb6)).trans hb6), ((HB4.out.cell (World.block_lt_of_cell? _ _ hb7)).trans hb7)⟩ (fun hHeld => ?_)
        clear hK K
        refine norm_ (a' := ?_) ?_ ?_
        rotate_left
        · show Act.put _ (some 54) _ = _
          simp only [Act.put, List.setIfInBounds_toArray, List.set_cons_zero, List.set_cons_succ, i64_w, i32_w]
          rfl
        refine pure_ (i := 19) (N := some 55) (v := ?_) (a' := ?_) #[true, true, true, true, true, true, true, true, true, true, true, true, true, true, true, true, true, true, true, true, false] rfl rfl (by kernel_rfl) (fun _ _ _ h => h) (Or.inl ⟨by rfl, ?_⟩) ?_ ?_
        rotate_left
        · intro w'
          go_simp
          with_reducible rfl
        rotate_left
        · simp only [Act.put, List.setIfInBounds_toArray, List.set_cons_zero, List.set_cons_succ, i64_w, i32_w]
          rfl
        refine last_ (i := 20) (N := none) #[true, true, true, true, true, true, true, true, true, true, true, true, true, true, true, true, true, true, true, true, true] rfl rfl (by kernel_rfl) (by decide) (fun K hK => ?_)
        refine skip_ (w1 := ?_) (by rfl) rfl ?_ ?_
        rotate_left
        · (go_simp; rfl)
        refine hK.out _ _ ?_
        clear hK K
        refine done_ (by kernel_rfl) ?_
        clear hHeld hp0 hp2 hq hp0' hq1' hfz1 ha0 ha1 ha2 ha3 ha4 ha5 ha6 ha7 hb0 hb1 hb2 hb3 hb4 hb5 hb6 hb7
        have HM4 := Aside0.mk (show Go.Proofs.Ythlekphkibeflaa.H.rowI (w4.setCell ⟨g, x.f0.toNat, none⟩ (.int .i64 v)) g 2 ((out.set x.f0.toNat s.f6).set x.f0.toNat v) from Go.Proofs.Ythlekphkibeflaa.H.rowI_set (Go.Proofs.Ythlekphkibeflaa.H.rowI_same (Go.Proofs.Ythlekphkibeflaa.H.rowI_drewN HM2.out 1) (HB4.out.block _ (Go.Proofs.Ythlekphkibeflaa.H.rowI_lt (Go.Proofs.Ythlekphkibeflaa.H.rowI_drewN HM2.out 1)))) x.f0.toNat v)
        have HBx := Aside0.mk (show Below w.heap.size w (w4.setCell ⟨g, x.f0.toNat, none⟩ (.int .i64 v)) from below_set (below_step (below_drew1 HB2.out) HB4.out) HG1.out)
        have HI4 := Aside0.mk (Kd.R_set (Kd.R_below (Kd.R_drew HI2.out) HB4.out) (blk_below (blk_drew HM2.out.blk) HB4.out) (by decide) x.f0.toNat (.int .i64 v))
        go_wp2_with (fail)
        go_roundg (gk - 1)
        case measure => omega
        case rel => exact ⟨i + 1, _, by omega, by go_num, HH, ⟨by rw [List.length_set, List.length_set]; exact xl⟩, HBx, HM4, HI4⟩
      · rw [if_neg cp] at hg
        have cpb := decide_eq_false cp
        have HH := Aside0.mk hg
        clear hg hp2
        have hp2 : W2.cell? ⟨B, 2, none⟩ = some (.int .i64 x.f2) := (blk_cell HK2.out 2).trans rfl
        go_wp2_with (fail)
        go_roundg (gk - 1)
        case measure => omega
        case rel => exact ⟨i + 1, _, by omega, by go_num, HH, ⟨by rw [List.length_set]; exact xl⟩, HB2, HM2, HI2⟩
    · have hltz : ¬ (i : Int) < (its.length : Int) := by omega
      have hg := HG.out
      rw [List.drop_of_length_le (by omega)] at hg
      obtain rfl := Option.some.inj (show some out = some o from hg)
      go_wp2_with (fail)
      go_ret2
      exact ⟨_, rfl, by have h_ := Go.Proofs.Ythlekphkibeflaa.H.rowI_R HM.out HG1.out (by have := HL.out; omega); rw [HL.out] at h_; exact h_, HB.out⟩


end Go.Proofs.Ythlekphkibeflaa.E
