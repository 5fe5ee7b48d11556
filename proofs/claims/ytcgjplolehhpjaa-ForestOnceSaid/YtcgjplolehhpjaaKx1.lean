-- WRITTEN FOR THIS CLAIM by wip/tools/mp.py, a program of this project that drives the kit's print; the functions that the print does not take are this project's own texts.
import Derived.Test.YtcgjplolehhpjaaKx0
namespace Go.Proofs.Ytcgjplolehhpjaa.K
open Go.RowKit Go.Proofs.YtcgjplolehhpjaaW.PrintWords Go.Proofs.YtcgjplolehhpjaaW.PrintLast Go.Proofs.YtcgjplolehhpjaaW.PrintMore
attribute [local go_sem] max2_int min2_int max_two min_two max_three min_three max_four min_four   -- for this text's walks alone
set_option linter.unusedVariables false
set_option linter.unusedSimpArgs false

/-! ### parent_cycles: function 38 -/
set_option maxHeartbeats 8000000 in
set_option maxRecDepth 100000 in
theorem parent_cycles.calls (k : Nat) (A0 : Option Addr) (c0 : Nat) (l0 : List Int) (fs : List Int) (g : Nat) (lb : Array Value) (eg : ∀ args w, (callFunc g args).run Try.prog w = .ok (.enter g args) w) (w : World) (St : Nat → List Int → World → Prop)
    (hI : ∀ W G, Below w.heap.size w W → w.heap.size ≤ G → St G [] W)
    (hS : ∀ G fs' W W', St G fs' W → W.grownBy W' (some G) → St G fs' W')
    (hC : ∀ G fs' W, St G fs' W → Kd.C (Kd.int .i64) W A0 l0.length l0)
    (hF : ∀ G fs' a rest W, fs = fs' ++ a :: rest → St G fs' W → G < W.heap.size → Calls Try.prog g (#[.int .i64 a] ++ lb) W fun e w' => e = .returned (.tuple #[]) ∧ St G (fs' ++ [a]) w' ∧ W.heap.size ≤ w'.heap.size ∧ w'.heap[G]? = W.heap[G]?)
    (hn : l0.length ≤ 1000000) (hc0 : l0.length ≤ c0)
    (h : Go.Proofs.Ytcgjplolehhpjaa.H.cyclesF k l0 = some fs) :
    Calls Try.prog 38 #[.slice A0 l0.length c0, .func (.func g) #[] lb] w fun e w' => e = .returned (.tuple #[]) ∧ ∃ G, St G fs w' := by
  have hmk := print_make (P := Try.prog) 25 3 .i64 8 Try.underlying25 info3 (by decide) l0.length (by omega)
  have HI := Aside0.mk (hI (w.alloc (.cells (madeCells #[.int .i64 0] l0.length) 3)) w.heap.size (below_alloc (Below.refl _ _) _) (Nat.le_refl _))
  have HS := Aside0.mk hS
  have HC := Aside0.mk hC
  have HF := Aside0.mk hF
  have HH := Aside0.mk h
  clear hI hS hC hF h
  go_enter Try.func38, Try.ntmps38
  go_wp2
  go_loopg [12] l0.length (fun d v12 wr => ∃ (i : Nat) (st fs' : List Int), i + d = l0.length ∧ v12 = .int .i64 i ∧ Aside0 (Go.Proofs.Ytcgjplolehhpjaa.H.outF l0 k d st fs' = some fs) ∧ Aside0 (Go.Proofs.Ytcgjplolehhpjaa.H.rowI wr w.heap.size 3 st) ∧ Aside0 (st.length = l0.length) ∧ Aside0 (St w.heap.size fs' wr))
  case atStart => exact ⟨0, List.replicate l0.length 0, [], by omega, rfl, HH, ⟨Go.Proofs.Ytcgjplolehhpjaa.H.rowI_made _ _ _⟩, ⟨by simp⟩, HI⟩
  case round =>
    obtain ⟨i, st, fs', hi, rfl, HO, HR, HL, HT⟩ := hrel
    by_cases hlt : i < l0.length
    · obtain ⟨d, rfl⟩ : ∃ d, gk = d + 1 := ⟨gk - 1, by omega⟩
      have ho := HO.out
      unfold Go.Proofs.Ytcgjplolehhpjaa.H.outF at ho
      rw [show l0.length - (d + 1) = i by omega] at ho
      obtain ⟨⟨st1, f⟩, hw, ho⟩ := Option.bind_eq_some_iff.mp ho
      obtain ⟨st2, hb, ho⟩ := Option.bind_eq_some_iff.mp ho
      have HW := Aside0.mk hw
      have HB := Aside0.mk hb
      have HO2 := Aside0.mk ho
      clear hw hb ho HO
      have hltz : (i : Int) < (l0.length : Int) := by omega
      go_wp2
      go_step3
      go_wp2
      go_step3
      go_upto_block 2 with fail
      go_cut [12] (fun v12 wc => v12 = .int .i64 i ∧ Aside0 (Go.Proofs.Ytcgjplolehhpjaa.H.rowI wc w.heap.size 3 st1) ∧ Aside0 (st1.length = l0.length) ∧ Aside0 (St w.heap.size (fs' ++ f.toList) wc))
      case first =>
        have hpre : ∀ a, f = some a → ∃ rest, fs = fs' ++ a :: rest := fun a e => by
          obtain ⟨rest, hr⟩ := Go.Proofs.Ytcgjplolehhpjaa.H.outF_prefix d st2 _ fs HO2.out
          exact ⟨rest, by rw [hr, e]; simp⟩
        have HPRE := Aside0.mk hpre
        clear hpre
        go_wp2_with (fail)
        go_loopg [6] k (fun kq v6 wr => ∃ (a : Int) (st' : List Int), v6 = .int .i64 a ∧ Aside0 (Go.Proofs.Ytcgjplolehhpjaa.H.walkF l0 kq st' a = some (st1, f)) ∧ Aside0 (Go.Proofs.Ytcgjplolehhpjaa.H.rowI wr w.heap.size 3 st') ∧ Aside0 (st'.length = l0.length) ∧ Aside0 (St w.heap.size fs' wr))
        case atStart => exact ⟨i, st, rfl, HW, HR, HL, HT⟩
        case round =>
          obtain ⟨a, st', rfl, HWq, HRq, HLq, HTq⟩ := hrel
          cases gk with
          | zero => exact absurd HWq.out (by simp [Go.Proofs.Ytcgjplolehhpjaa.H.walkF])
          | succ kq =>
            have hw := HWq.out
            unfold Go.Proofs.Ytcgjplolehhpjaa.H.walkF at hw
            clear HWq
            by_cases c1 : a < 0
            · rw [if_pos c1] at hw
              obtain ⟨rfl, rfl⟩ := Prod.mk.inj (Option.some.inj hw)
              clear hw
              go_wp2_with (fail)
              go_meet
              exact ⟨rfl, HRq, HLq, ⟨by rw [show (none : Option Int).toList = [] from rfl, List.append_nil]; exact HTq.out⟩⟩
            · rw [if_neg c1] at hw
              by_cases c2 : a < (st'.length : Int)
              case neg => rw [if_neg c2] at hw; cases hw
              rw [if_pos c2] at hw
              have ha0 : 0 ≤ a := by omega
              have hcell := Go.Proofs.Ytcgjplolehhpjaa.H.rowI_cell HRq.out a ha0 c2
              have hfr := Go.Proofs.Ytcgjplolehhpjaa.H.rowI_frozen HRq.out a.toNat
              have ha1 : a < (l0.length : Int) := by rw [← HLq.out]; exact c2
              clear c1 c2
              by_cases c3 : st'.getD a.toNat 0 = 2
              · rw [if_pos c3] at hw
                obtain ⟨rfl, rfl⟩ := Prod.mk.inj (Option.some.inj hw)
                clear hw
                rw [c3] at hcell
                clear c3
                go_wp2_with (fail)
                go_meet
                exact ⟨rfl, HRq, HLq, ⟨by rw [show (none : Option Int).toList = [] from rfl, List.append_nil]; exact HTq.out⟩⟩
              · rw [if_neg c3] at hw
                by_cases c4 : st'.getD a.toNat 0 = 1
                · rw [if_pos c4] at hw
                  obtain ⟨rfl, rfl⟩ := Prod.mk.inj (Option.some.inj hw)
                  clear hw c3
                  rw [c4] at hcell
                  clear c4
                  obtain ⟨rest, hrest⟩ := HPRE.out a rfl
                  have hcall := HF.out w.heap.size fs' a rest wr hrest HTq.out (Go.Proofs.Ytcgjplolehhpjaa.H.rowI_lt HRq.out)
                  have HCALL := Aside0.mk hcall
                  clear hrest hcall
                  go_wp2_with (go_at_fn g; refine HCALL.out.mono ?_; rintro e w' ⟨rfl, ht, hsz, hsame⟩)
                  go_meet
                  exact ⟨rfl, ⟨Go.Proofs.Ytcgjplolehhpjaa.H.rowI_same HRq.out hsame⟩, HLq, ⟨ht⟩⟩
                · rw [if_neg c4, if_pos ha1] at hw
                  have hv2 : (st'.getD a.toNat 0 == 2) = false := by simpa using c3
                  have hv1 : (st'.getD a.toNat 0 == 1) = false := by simpa using c4
                  generalize st'.getD a.toNat 0 = v at hcell hv2 hv1
                  clear c3 c4
                  have HTn := Aside0.mk (HS.out _ _ _ _ HTq.out (Go.Proofs.Ytcgjplolehhpjaa.H.grown_set wr w.heap.size a.toNat (.int .i64 1)))
                  obtain ⟨ad, e, hx⟩ := Kd.at_int (HC.out _ _ _ HTn.out) a ha0 ha1
                  cases e
                  have HWn := Aside0.mk hw
                  clear hw
                  go_wp2_with (fail)
                  go_roundg kq
                  case measure => omega
                  case rel => exact ⟨_, st'.set a.toNat 1, rfl, HWn, ⟨Go.Proofs.Ytcgjplolehhpjaa.H.rowI_set HRq.out _ _⟩, ⟨by rw [List.length_set]; exact HLq.out⟩, HTn⟩
      case rest =>
        clear HW HR HL HT
        obtain ⟨rfl, HR1, HL1, HT1⟩ := hcut
        go_wp2_with (fail)
        go_loopg [6] k (fun kq v6 wr => ∃ (a : Int) (st' : List Int), v6 = .int .i64 a ∧ Aside0 (Go.Proofs.Ytcgjplolehhpjaa.H.backF l0 kq st' a = some st2) ∧ Aside0 (Go.Proofs.Ytcgjplolehhpjaa.H.rowI wr w.heap.size 3 st') ∧ Aside0 (st'.length = l0.length) ∧ Aside0 (St w.heap.size (fs' ++ f.toList) wr))
        case atStart => exact ⟨i, st1, rfl, HB, HR1, HL1, HT1⟩
        case round =>
          obtain ⟨a, st', rfl, HWq, HRq, HLq, HTq⟩ := hrel
          cases gk with
          | zero => exact absurd HWq.out (by simp [Go.Proofs.Ytcgjplolehhpjaa.H.backF])
          | succ kq =>
            have hw := HWq.out
            unfold Go.Proofs.Ytcgjplolehhpjaa.H.backF at hw
            clear HWq
            by_cases c1 : a < 0
            · rw [if_pos c1] at hw
              obtain rfl := Option.some.inj hw
              clear hw
              have hge : decide (0 ≤ a) = false := by simpa using c1
              go_wp2_with (fail)
              rw [Exit.noGoto_normal]
              go_wp2_with (fail)
              go_roundg d
              case measure => omega
              case rel => exact ⟨i + 1, st', fs' ++ f.toList, by omega, by go_num, HO2, HRq, HLq, HTq⟩
            · rw [if_neg c1] at hw
              by_cases c2 : a < (st'.length : Int)
              case neg => rw [if_neg c2] at hw; cases hw
              rw [if_pos c2] at hw
              have ha0 : 0 ≤ a := by omega
              have hcell := Go.Proofs.Ytcgjplolehhpjaa.H.rowI_cell HRq.out a ha0 c2
              have hfr := Go.Proofs.Ytcgjplolehhpjaa.H.rowI_frozen HRq.out a.toNat
              have ha1 : a < (l0.length : Int) := by rw [← HLq.out]; exact c2
              clear c1 c2
              by_cases c4 : st'.getD a.toNat 0 = 1
              · rw [if_pos c4, if_pos ha1] at hw
                rw [c4] at hcell
                clear c4
                have HTn := Aside0.mk (HS.out _ _ _ _ HTq.out (Go.Proofs.Ytcgjplolehhpjaa.H.grown_set wr w.heap.size a.toNat (.int .i64 2)))
                obtain ⟨ad, e, hx⟩ := Kd.at_int (HC.out _ _ _ HTn.out) a ha0 ha1
                cases e
                have HWn := Aside0.mk hw
                clear hw
                go_wp2_with (fail)
                go_roundg kq
                case measure => omega
                case rel => exact ⟨_, st'.set a.toNat 2, rfl, HWn, ⟨Go.Proofs.Ytcgjplolehhpjaa.H.rowI_set HRq.out _ _⟩, ⟨by rw [List.length_set]; exact HLq.out⟩, HTn⟩
              · rw [if_neg c4] at hw
                obtain rfl := Option.some.inj hw
                clear hw
                have hv1 : (st'.getD a.toNat 0 == 1) = false := by simpa using c4
                generalize st'.getD a.toNat 0 = v at hcell hv1
                clear c4
                go_wp2_with (fail)
                rw [Exit.noGoto_normal]
                go_wp2_with (fail)
                go_roundg d
                case measure => omega
                case rel => exact ⟨i + 1, st', fs' ++ f.toList, by omega, by go_num, HO2, HRq, HLq, HTq⟩
    · have hltz : ¬ (i : Int) < (l0.length : Int) := by omega
      obtain rfl : gk = 0 := by omega
      have he := Option.some.inj (show some fs' = some fs from HO.out)
      subst he
      go_wp2_with (fail)
      go_end0
      exact ⟨rfl, _, HT.out⟩


/-! ### parent_Of: function 17 -/
def parent_Of_wf (l0 : List S37) : Bool := l0.all fun s => (Lit.int .u64 s.f1).wf && (Lit.int .u64 s.f2).wf
def parent_Of_par (l0 : List S37) : List Int := Go.Proofs.Ytcgjplolehhpjaa.H.par0 (l0.map fun s => s.f1) (l0.map fun s => s.f2)
def parent_Of.f (k : Nat) (l0 : List S37) : Option (List Int) :=
  if l0.length ≤ 1000000 then (if parent_Of_wf l0 = true then (Go.Proofs.Ytcgjplolehhpjaa.H.cyclesF k (parent_Of_par l0)).bind fun fs => (Go.Proofs.Ytcgjplolehhpjaa.H.leastsF k (parent_Of_par l0) fs).bind fun ls => Go.Proofs.Ytcgjplolehhpjaa.H.clearF (parent_Of_par l0) ls else none) else none
theorem parent_Of.mono : ∀ a0 k, LeO (parent_Of.f k a0) (parent_Of.f (k + 1) a0) := by
  intro a0 k
  unfold parent_Of.f
  exact LeO.ite (LeO.ite (LeO.bind (Go.Proofs.Ytcgjplolehhpjaa.H.cyclesF_mono k _) (fun fs => LeO.bind (Go.Proofs.Ytcgjplolehhpjaa.H.leastsF_mono k _ fs) (fun ls => LeO.refl _))) (LeO.refl _)) (LeO.refl _)
theorem parent_Of_par_length (l0 : List S37) : (parent_Of_par l0).length = l0.length := by simp [parent_Of_par, Go.Proofs.Ytcgjplolehhpjaa.H.par0]
structure parent_Of_St (w : World) (G0 B8 B13 : Nat) (k : Nat) (p : List Int) (G : Nat) (fs : List Int) (W : World) : Prop where
  below : Below w.heap.size w W
  far : w.heap.size ≤ G0
  lt1 : G0 < B8
  lt2 : B8 < B13
  lt3 : B13 < G
  row : Go.Proofs.Ytcgjplolehhpjaa.H.rowI W G0 3 p
  out : W.heap[B8]? = some (.cells #[.slice (some ⟨G0, 0, none⟩) p.length p.length] 25 (0, 0))
  los : ∃ v ls, Go.Proofs.Ytcgjplolehhpjaa.H.leastsF k p fs = some ls ∧ W.heap[B13]? = some (.cells #[v] 25 (0, 0)) ∧ Kd.R (Kd.int .i64) 3 W (B13 + 1) (fun q => q ≠ G) v ls
theorem parent_Of_St_grown {w : World} {G0 B8 B13 k : Nat} {p : List Int} {G : Nat} {fs : List Int} {W W' : World} (h : parent_Of_St w G0 B8 B13 k p G fs W) (hg : W.grownBy W' (some G)) : parent_Of_St w G0 B8 B13 k p G fs W' := by
  obtain ⟨v, ls, h1, h2, h3⟩ := h.los
  have l1 := h.far; have l2 := h.lt1; have l3 := h.lt2; have l4 := h.lt3
  exact ⟨pw_below_grown h.below (some G) h.below.size hg (fun q e => by have := Option.some.inj e; omega), l1, l2, l3, l4, Go.Proofs.Ytcgjplolehhpjaa.H.rowI_grown h.row hg (by simp; omega), blk_grown h.out hg (by simp; omega), v, ls, h1, blk_grown h2 hg (by simp; omega), Kd.R_grown h3 hg (fun q hq => by simpa using hq)⟩
set_option maxHeartbeats 8000000 in
set_option maxRecDepth 100000 in
theorem parent_Of_found (w : World) (G0 B8 B13 : Nat) (k : Nat) (p : List Int) (hp : p.length ≤ 1000000) (G : Nat) (fs' : List Int) (a x : Int) (ls' : List Int) (hls : ls'.length ≤ 1000000) (hl1 : Go.Proofs.Ytcgjplolehhpjaa.H.leastsF k p fs' = some ls') (hx : Go.Proofs.Ytcgjplolehhpjaa.H.leastA k p a = some x) (hl2 : Go.Proofs.Ytcgjplolehhpjaa.H.leastsF k p (fs' ++ [a]) = some (ls' ++ [x])) (W : World) (hs : parent_Of_St w G0 B8 B13 k p G fs' W) (hG : G < W.heap.size) :
    Calls Try.prog 39 #[.int .i64 a, .pointer (some ⟨B8, 0, none⟩), .pointer (some ⟨B13, 0, none⟩)] W fun e w' => e = .returned (.tuple #[]) ∧ parent_Of_St w G0 B8 B13 k p G (fs' ++ [a]) w' ∧ W.heap.size ≤ w'.heap.size ∧ w'.heap[G]? = W.heap[G]? := by
  obtain ⟨v, ls0, h1, h2, h3⟩ := hs.los
  obtain rfl : ls0 = ls' := Option.some.inj (h1.symm.trans hl1)
  obtain ⟨Av, cv, rfl⟩ := Kd.R_slice h3
  have hc8 : W.cell? ⟨B8, 0, none⟩ = some (.slice (some ⟨G0, 0, none⟩) p.length p.length) := (blk_cell hs.out 0).trans rfl
  have hc13 : W.cell? ⟨B13, 0, none⟩ = some (.slice Av ls0.length cv) := (blk_cell h2 0).trans rfl
  have hf13 := blk_frozen h2 0
  unfold Go.Proofs.Ytcgjplolehhpjaa.H.leastA at hx
  by_cases ha0 : 0 ≤ a
  case neg => rw [if_neg ha0] at hx; cases hx
  rw [if_pos ha0] at hx
  by_cases ha1 : a < (p.length : Int)
  case neg => rw [if_neg ha1] at hx; cases hx
  rw [if_pos ha1] at hx
  have hrow := Go.Proofs.Ytcgjplolehhpjaa.H.rowI_rd hs.row a ha0 ha1
  have HS := Aside0.mk hs
  have H2 := Aside0.mk h2
  have H3 := Aside0.mk h3
  have HX := Aside0.mk hx
  have HL2 := Aside0.mk hl2
  have HG := Aside0.mk hG
  have HLS := Aside0.mk hls
  have HB13 := Aside0.mk (blk_lt h2)
  clear h1 h2 h3 hs hx hl1 hl2 hls hG
  go_enter Try.func39, Try.ntmps39
  go_wp2
  go_loopg [4, 5] k (fun kq v4 v5 wr => ∃ (lst kk : Int), v4 = .int .i64 lst ∧ v5 = .int .i64 kk ∧ W = wr ∧ Aside0 (Go.Proofs.Ytcgjplolehhpjaa.H.leastF p a kq kk lst = some x))
  case atStart => exact ⟨a, _, rfl, rfl, rfl, HX⟩
  case round =>
    obtain ⟨lst, kk, rfl, rfl, rfl, HQ⟩ := hrel
    cases gk with
    | zero => exact absurd HQ.out (by simp [Go.Proofs.Ytcgjplolehhpjaa.H.leastF])
    | succ kq =>
      have hq := HQ.out
      unfold Go.Proofs.Ytcgjplolehhpjaa.H.leastF at hq
      clear HQ
      by_cases c1 : kk = a
      · rw [if_pos c1] at hq
        subst c1
        obtain rfl := Option.some.inj hq
        clear hq
        have hne : ∀ q, some q = Value.ownBlock (.slice Av ls0.length cv) → B13 + 1 ≤ q ∧ q ≠ G := fun q e => ⟨Kd.R_base H3.out q e.symm, H3.out.1 q e.symm⟩
        have HNE := Aside0.mk hne
        clear hne
        go_wp2_with (at_builtin; refine Kd.R_append (Kd.int .i64) (w0 := W) (W := W) (B13 + 1) rfl _ _ 25 3 (.int .i64 0) 8 rfl Try.underlying25 info3 rfl (by decide) (by decide) (.slice Av ls0.length cv) ls0 lst [.int .i64 lst] (fun q => q ≠ G) (fun _ => False) rfl rfl (show Kd.M (Kd.int .i64) _ _ _ lst [.int .i64 lst] from rfl) (fun q hq => hq.elim) (fun q hq => by have := HG.out; omega) H3.out (Below.refl _ _) HB13.out (by have := HLS.out; omega) ?_; intro v1 w1 hr1 hb1 hg1 hat1; obtain ⟨A1, c1, rfl⟩ := Kd.R_slice hr1; have H2n := Aside0.mk (blk_grown H2.out hg1 (fun e => by have := (HNE.out B13 e).1; omega)); have hcn : w1.cell? ⟨B13, 0, none⟩ = some (.slice Av ls0.length cv) := (blk_cell H2n.out 0).trans rfl; have hfn := blk_frozen H2n.out 0; have HR1 := Aside0.mk hr1; have HB1 := Aside0.mk hb1; have HG1 := Aside0.mk hg1; have HAT := Aside0.mk hat1; clear hr1 hb1 hg1 hat1)
        go_end0
        have l1 := HS.out.far; have l2 := HS.out.lt1; have l3 := HS.out.lt2; have l4 := HS.out.lt3
        refine ⟨rfl, ⟨below_set (pw_below_grown HS.out.below _ HS.out.below.size HG1.out (fun q e => by have := (HNE.out q e.symm).1; omega)) (by omega), l1, l2, l3, l4, ⟨blk_far (blk_grown HS.out.row.blk HG1.out (fun e => by have := (HNE.out G0 e).1; omega)) (by simp; omega) _⟩, blk_far (blk_grown HS.out.out HG1.out (fun e => by have := (HNE.out B8 e).1; omega)) (by simp; omega) _, _, _, HL2.out, blk_put H2n.out 0 _ rfl, ?_⟩, ?_, ?_⟩
        · have h_ := Kd.R_mono (Kd.R_far (Kd.R_bound HR1.out) (p := ⟨B13, 0, none⟩) (fun q hq => by have := hq.2.1; show q ≠ B13; omega) (.slice A1 (ls0.length + 1) c1)) (fun q hq => hq.1)
          rw [show (ls0 ++ [lst]).length = ls0.length + 1 by simp] at h_
          exact h_
        · have := HG1.out.size; simpa using this
        · rw [Below.heap_setCell w1 _ _ G (by simp; omega)]
          exact HG1.out.block G HG.out (fun e => (HNE.out G e).2 rfl)
      · rw [if_neg c1] at hq
        by_cases c2 : 0 ≤ kk
        case neg => rw [if_neg c2] at hq; cases hq
        rw [if_pos c2] at hq
        by_cases c3 : kk < (p.length : Int)
        case neg => rw [if_neg c3] at hq; cases hq
        rw [if_pos c3] at hq
        have hrow2 := Go.Proofs.Ytcgjplolehhpjaa.H.rowI_rd HS.out.row kk c2 c3
        have c1b : (kk != a) = true := bne_iff_ne.mpr c1
        by_cases c4 : kk < lst
        · rw [show mn lst kk = kk from if_pos c4] at hq
          have HQ := Aside0.mk hq
          clear hq
          go_wp2
          go_roundg kq
          case measure => omega
          case rel => exact ⟨_, _, rfl, rfl, rfl, HQ⟩
        · rw [show mn lst kk = lst from if_neg c4] at hq
          have HQ := Aside0.mk hq
          clear hq
          go_wp2
          go_roundg kq
          case measure => omega
          case rel => exact ⟨_, _, rfl, rfl, rfl, HQ⟩
theorem parent_Of_law : Go.Maps.Keyed Try.prog 35 := Go.Maps.int_keyed Try.underlying35
theorem parent_Of_zero (w : World) : (zeroValue 3).run Try.prog w = .ok (.int .i64 0) w := by kernel_rfl
theorem parent_Of_take (l : List Int) (i : Nat) (h : i < l.length) : l.take (i + 1) = l.take i ++ [l.getD i 0] := by
  rw [List.take_succ_eq_append_getElem h, List.getD_eq_getElem?_getD, List.getElem?_eq_getElem h]; rfl
theorem parent_Of_fill (l : List Int) (n i : Nat) (hn : l.length = n) (h : i < n) : (l.take i ++ List.replicate (n - i) 0).set i (l.getD i 0) = l.take (i + 1) ++ List.replicate (n - (i + 1)) 0 := by
  have h1 : (l.take i).length = i := by rw [List.length_take]; omega
  rw [List.set_append_right _ _ (by omega), h1, Nat.sub_self, parent_Of_take l i (by omega)]
  obtain ⟨m, hm⟩ : ∃ m, n - i = m + 1 := ⟨n - i - 1, by omega⟩
  rw [hm, show n - (i + 1) = m by omega, List.replicate_succ, List.set_cons_zero, List.append_assoc]
  rfl
set_option maxHeartbeats 8000000 in
set_option maxRecDepth 100000 in
theorem parent_Of.calls (k : Nat) (A0 : Option Addr) (c0 : Nat) (l0 : List S37) (r : List Int) (w : World) (hr0 : Kd.C k37 w A0 l0.length l0) (hc0 : l0.length ≤ c0) (h : parent_Of.f k l0 = some r) :
    Calls Try.prog 17 #[.slice A0 l0.length c0] w fun e w' => ∃ v0_ : Value, e = .returned (v0_) ∧ Kd.R (Kd.int .i64) 3 w' w.heap.size (fun _ => True) v0_ r ∧ Below w.heap.size w w' := by
  unfold parent_Of.f at h
  by_cases hn : l0.length ≤ 1000000
  case neg => rw [if_neg hn] at h; cases h
  rw [if_pos hn] at h
  by_cases hwf : parent_Of_wf l0 = true
  case neg => rw [if_neg hwf] at h; cases h
  rw [if_pos hwf] at h
  obtain ⟨fs, hfs, h⟩ := Option.bind_eq_some_iff.mp h
  obtain ⟨ls, hls, h⟩ := Option.bind_eq_some_iff.mp h
  have hlen := parent_Of_par_length l0
  have hfl := Go.Proofs.Ytcgjplolehhpjaa.H.cyclesF_len hfs
  obtain ⟨p, hp⟩ : ∃ p, p = parent_Of_par l0 := ⟨_, rfl⟩
  rw [← hp] at hfs hls h hlen hfl
  obtain ⟨ids, hids⟩ : ∃ ids : List Int, ids = l0.map fun s => s.f1 := ⟨_, rfl⟩
  have hidl : ids.length = l0.length := by rw [hids]; simp
  have hpat : ∀ i (hi : i < l0.length), p.getD i 0 = if l0[i].f2 = 0 then -1 else Go.Proofs.Ytcgjplolehhpjaa.H.firstI ids l0[i].f2 := fun i hi => by
    rw [hp, List.getD_eq_getElem?_getD, List.getElem?_eq_getElem (by rw [parent_Of_par_length]; exact hi)]
    simp [parent_Of_par, Go.Proofs.Ytcgjplolehhpjaa.H.par0, hids]
  have hiat : ∀ i (hi : i < l0.length), ids.getD i 0 = l0[i].f1 := fun i hi => by
    rw [hids, List.getD_eq_getElem?_getD, List.getElem?_eq_getElem (by simpa using hi)]; simp
  have hwat : ∀ i (hi : i < l0.length), (Lit.int .u64 l0[i].f1).wf = true ∧ (Lit.int .u64 l0[i].f2).wf = true := fun i hi => by
    have := List.all_eq_true.1 hwf _ (List.getElem_mem hi)
    simpa using this
  have HR := Aside0.mk hr0
  have HB := Aside0.mk (Below.refl w.heap.size w)
  have HFS := Aside0.mk hfs
  have HLS := Aside0.mk hls
  have HCL := Aside0.mk h
  have HLEN := Aside0.mk hlen
  have HFL := Aside0.mk hfl
  have HIDL := Aside0.mk hidl
  have HPAT := Aside0.mk hpat
  have HIAT := Aside0.mk hiat
  have HWAT := Aside0.mk hwat
  clear h hfs hls hr0 hp hids hidl hpat hiat hwat hwf hlen hfl
  have hmm := @run_makeMap Try.prog
  have hmk := print_make (P := Try.prog) 25 3 .i64 8 Try.underlying25 info3 (by decide) l0.length (by omega)
  have hmf : ∀ (fn : Fn) (first cap : Array Value) (w : World), (Instr.makeFunc fn first cap).run Try.prog w = .ok (.func fn first cap) w := fun _ _ _ _ => rfl
  have hu_ := Try.underlying37
  go_enter Try.func17, Try.ntmps17
  go_wp2
  go_loopg [19] l0.length (fun d v19 wr => ∃ (i : Nat) (D : DataW Unit), i + d = l0.length ∧ v19 = .int .i64 i ∧ Aside0 (Below w.heap.size w wr) ∧ Aside0 (Go.Proofs.Ytcgjplolehhpjaa.H.MapD .u64 (ids.take i) D) ∧ Aside0 (wr.ownsMap Try.prog 35 (plainElem Try.prog 3) w.heap.size i D))
  case atStart => exact ⟨0, .map [], by omega, rfl, ⟨(Below.refl _ _).alloc (Nat.le_refl _) _⟩, ⟨Go.Proofs.Ytcgjplolehhpjaa.H.MapD_nil .u64⟩, ⟨World.ownsMap_made _ _ _ _⟩⟩
  case round =>
    obtain ⟨i, D, hi, rfl, HBr, HMD, HOM⟩ := hrel
    by_cases hlt : i < l0.length
    · have hltz : (i : Int) < (l0.length : Int) := by omega
      obtain ⟨ad, e, hx0, hx1, hx2, hx3, hx4, hx5, hx6, hx7⟩ := at_T37 HR.out (i : Int) (by omega) hltz
      cases e
      replace hx0 := (HBr.out.cell (World.block_lt_of_cell? w _ hx0)).trans hx0; simp only [Int.toNat_natCast] at hx0; replace hx1 := (HBr.out.cell (World.block_lt_of_cell? w _ hx1)).trans hx1; simp only [Int.toNat_natCast] at hx1; replace hx2 := (HBr.out.cell (World.block_lt_of_cell? w _ hx2)).trans hx2; simp only [Int.toNat_natCast] at hx2; replace hx3 := (HBr.out.cell (World.block_lt_of_cell? w _ hx3)).trans hx3; simp only [Int.toNat_natCast] at hx3; replace hx4 := (HBr.out.cell (World.block_lt_of_cell? w _ hx4)).trans hx4; simp only [Int.toNat_natCast] at hx4; replace hx5 := (HBr.out.cell (World.block_lt_of_cell? w _ hx5)).trans hx5; simp only [Int.toNat_natCast] at hx5; replace hx6 := (HBr.out.cell (World.block_lt_of_cell? w _ hx6)).trans hx6; simp only [Int.toNat_natCast] at hx6; replace hx7 := (HBr.out.cell (World.block_lt_of_cell? w _ hx7)).trans hx7; simp only [Int.toNat_natCast] at hx7
      have hy : rd_T37 l0 (i : Int) = l0[i] := by show l0.getD _ _ = _; simp [List.getD_eq_getElem?_getD, List.getElem?_eq_getElem hlt]
      rw [hy] at hx0 hx1 hx2 hx3 hx4 hx5 hx6 hx7
      have hw1 := (HWAT.out i hlt).1
      have HTK := Aside0.mk (show ids.take (i + 1) = ids.take i ++ [l0[i].f1] by rw [parent_Of_take ids i (by rw [HIDL.out]; exact hlt), HIAT.out i hlt])
      have HTL := Aside0.mk (show (ids.take i).length = i by rw [List.length_take, HIDL.out]; omega)
      clear hy
      generalize l0[i] = s at hx0 hx1 hx2 hx3 hx4 hx5 hx6 hx7 hw1 HTK
      have hkey : keyOf Try.prog 35 (.int .u64 s.f1) = some (.int .u64 s.f1) := Go.Maps.keyOf_int_mk Try.underlying35 hw1
      by_cases hm : s.f1 ∈ ids.take i
      · have hhas : Go.Maps.has D (.int .u64 s.f1) = true := by rw [HMD.out.has]; exact decide_eq_true hm
        have HM := Aside0.mk hm
        clear hm
        go_wp2_with (at_lookup; refine wpList_lookup_own_ok_int _ rfl _ _ 51 rfl 35 3 .i64 parent_Of_law Try.underlying51 Try.underlying3 (parent_Of_zero _) w.heap.size i _ rfl (HOM.out.alloc _) _ _ rfl hkey ?_; intro c hat hwc)
        go_roundg (gk - 1)
        case measure => omega
        case rel => exact ⟨i + 1, D, by omega, by go_num, ⟨below_alloc HBr.out _⟩, ⟨by rw [HTK.out]; exact Go.Proofs.Ytcgjplolehhpjaa.H.MapD_old HMD.out HM.out⟩, ⟨(HOM.out.alloc _).mono (by omega)⟩⟩
      · have hhas : Go.Maps.has D (.int .u64 s.f1) = false := by rw [HMD.out.has]; exact decide_eq_false hm
        have HM := Aside0.mk hm
        clear hm
        have hwi : (Lit.int .i64 (i : Int)).wf = true := Go.WalkArith.wf_i64 ⟨by omega, by omega⟩
        go_wp2_with (first
          | (at_lookup; refine wpList_lookup_own_ok_int _ rfl _ _ 51 rfl 35 3 .i64 parent_Of_law Try.underlying51 Try.underlying3 (parent_Of_zero _) w.heap.size i _ rfl (HOM.out.alloc _) _ _ rfl hkey ?_; intro c hat hwc)
          | (at_mapUpdate; refine wpList_mapUpdate_own _ rfl _ _ _ 51 rfl 35 3 parent_Of_law Try.underlying51 _ w.heap.size i _ rfl (HOM.out.alloc _) (by unfold maxLen; omega) _ _ _ rfl rfl hkey _ [] (plainElem_int Try.underlying3 hwi) ?_; intro w1 hown1 hgrow1; have HG1 := Aside0.mk hgrow1; have HO1 := Aside0.mk hown1; clear hgrow1 hown1))
        go_roundg (gk - 1)
        case measure => omega
        case rel => exact ⟨i + 1, _, by omega, by go_num, ⟨pw_below_grown (below_alloc HBr.out _) _ (below_alloc HBr.out _).size HG1.out (fun q e => by have := Option.some.inj e; omega)⟩, ⟨by have h_ := Go.Proofs.Ytcgjplolehhpjaa.H.MapD_new HMD.out HM.out; rw [HTL.out] at h_; rw [HTK.out]; exact h_⟩, HO1⟩
    · have hltz : ¬ (i : Int) < (l0.length : Int) := by omega
      have HMD2 := Aside0.mk (show Go.Proofs.Ytcgjplolehhpjaa.H.MapD .u64 ids D by have h_ := HMD.out; rw [List.take_of_length_le (by rw [HIDL.out]; omega)] at h_; exact h_)
      clear HMD
      obtain ⟨w1, hw1⟩ : ∃ w1, w1 = wr := ⟨_, rfl⟩
      subst hw1
      have HGL := Aside0.mk (show w.heap.size ≤ w1.heap.size from HBr.out.size)
      have HGT := Aside0.mk (show w.heap.size < w1.heap.size from HOM.out.lt)
      go_wp2
      go_loopg [43] l0.length (fun d v43 wr => ∃ (j : Nat), j + d = l0.length ∧ v43 = .int .i64 j ∧ Aside0 (Below w.heap.size w wr) ∧ Aside0 (wr.ownsMap Try.prog 35 (plainElem Try.prog 3) w.heap.size i D) ∧ Aside0 (Go.Proofs.Ytcgjplolehhpjaa.H.rowI wr w1.heap.size 3 (p.take j ++ List.replicate (l0.length - j) 0)) ∧ Aside0 (wr.heap[w1.heap.size + 1]? = some (.cells #[.slice (some ⟨w1.heap.size, 0, none⟩) l0.length l0.length] 25 (0, 0))))
      case atStart => exact ⟨0, by omega, rfl, ⟨below_alloc (below_alloc HBr.out _) _⟩, ⟨(HOM.out.alloc _).alloc _⟩, ⟨⟨by have h_ := blk_alloc (Go.Proofs.Ytcgjplolehhpjaa.H.rowI_made w1 3 l0.length).blk (.cells #[.slice (some ⟨w1.heap.size, 0, none⟩) l0.length l0.length] 25 (0, 0)); simpa using h_⟩⟩, ⟨by have h_ := blk_new (w1.alloc (.cells (madeCells #[.int .i64 0] l0.length) 3)) (.cells #[.slice (some ⟨w1.heap.size, 0, none⟩) l0.length l0.length] 25 (0, 0)); simpa using h_⟩⟩
      case round =>
        clear HBr HOM
        obtain ⟨j, hj, rfl, HBr, HOM, HRO, HO8⟩ := hrel
        by_cases hlt2 : j < l0.length
        · have hltz2 : (j : Int) < (l0.length : Int) := by omega
          obtain ⟨ad, e, hx0, hx1, hx2, hx3, hx4, hx5, hx6, hx7⟩ := at_T37 HR.out (j : Int) (by omega) hltz2
          cases e
          replace hx0 := (HBr.out.cell (World.block_lt_of_cell? w _ hx0)).trans hx0; simp only [Int.toNat_natCast] at hx0; replace hx1 := (HBr.out.cell (World.block_lt_of_cell? w _ hx1)).trans hx1; simp only [Int.toNat_natCast] at hx1; replace hx2 := (HBr.out.cell (World.block_lt_of_cell? w _ hx2)).trans hx2; simp only [Int.toNat_natCast] at hx2; replace hx3 := (HBr.out.cell (World.block_lt_of_cell? w _ hx3)).trans hx3; simp only [Int.toNat_natCast] at hx3; replace hx4 := (HBr.out.cell (World.block_lt_of_cell? w _ hx4)).trans hx4; simp only [Int.toNat_natCast] at hx4; replace hx5 := (HBr.out.cell (World.block_lt_of_cell? w _ hx5)).trans hx5; simp only [Int.toNat_natCast] at hx5; replace hx6 := (HBr.out.cell (World.block_lt_of_cell? w _ hx6)).trans hx6; simp only [Int.toNat_natCast] at hx6; replace hx7 := (HBr.out.cell (World.block_lt_of_cell? w _ hx7)).trans hx7; simp only [Int.toNat_natCast] at hx7
          have hy : rd_T37 l0 (j : Int) = l0[j] := by show l0.getD _ _ = _; simp [List.getD_eq_getElem?_getD, List.getElem?_eq_getElem hlt2]
          rw [hy] at hx0 hx1 hx2 hx3 hx4 hx5 hx6 hx7
          have hw2 := (HWAT.out j hlt2).2
          have HPJ := Aside0.mk (HPAT.out j hlt2)
          clear hy
          generalize l0[j] = s at hx0 hx1 hx2 hx3 hx4 hx5 hx6 hx7 hw2 HPJ
          have hkey : keyOf Try.prog 35 (.int .u64 s.f2) = some (.int .u64 s.f2) := Go.Maps.keyOf_int_mk Try.underlying35 hw2
          have HFILL := Aside0.mk (parent_Of_fill p l0.length j HLEN.out hlt2)
          have hlen2 : (p.take j ++ List.replicate (l0.length - j) 0).length = l0.length := by rw [List.length_append, List.length_take, HLEN.out, List.length_replicate]; omega
          have hc8 : ∀ o : Obj, (wr.alloc o).cell? ⟨w1.heap.size + 1, 0, none⟩ = some (.slice (some ⟨w1.heap.size, 0, none⟩) l0.length l0.length) := fun o => (blk_cell (blk_alloc HO8.out o) 0).trans rfl
          obtain ⟨vj, hrow⟩ : ∃ vj, ∀ o : Obj, (wr.alloc o).cell? ⟨w1.heap.size, j, none⟩ = some (.int .i64 vj) := ⟨_, fun o => by have h_ := Go.Proofs.Ytcgjplolehhpjaa.H.rowI_rd ⟨blk_alloc HRO.out.blk o⟩ (j : Int) (by omega) (by rw [hlen2]; exact hltz2); rw [Int.toNat_natCast] at h_; exact h_⟩
          have hfr : ∀ o : Obj, (wr.alloc o).frozen? ⟨w1.heap.size, j, none⟩ = false := fun o => blk_frozen (blk_alloc HRO.out.blk o) j
          have HLEN2 := Aside0.mk hlen2
          clear hlen2
          have hend : ∀ (v : Int), v = p.getD j 0 → ∀ (o : Obj), Aside0 (Below w.heap.size w ((wr.alloc o).setCell ⟨w1.heap.size, j, none⟩ (.int .i64 v))) ∧ Aside0 (((wr.alloc o).setCell ⟨w1.heap.size, j, none⟩ (.int .i64 v)).ownsMap Try.prog 35 (plainElem Try.prog 3) w.heap.size i D) ∧ Aside0 (Go.Proofs.Ytcgjplolehhpjaa.H.rowI ((wr.alloc o).setCell ⟨w1.heap.size, j, none⟩ (.int .i64 v)) w1.heap.size 3 (p.take (j + 1) ++ List.replicate (l0.length - (j + 1)) 0)) ∧ Aside0 (((wr.alloc o).setCell ⟨w1.heap.size, j, none⟩ (.int .i64 v)).heap[w1.heap.size + 1]? = some (.cells #[.slice (some ⟨w1.heap.size, 0, none⟩) l0.length l0.length] 25 (0, 0))) := fun v hv o => by
            subst hv
            refine ⟨⟨below_set (below_alloc HBr.out _) HGL.out⟩, ⟨(HOM.out.alloc _).kept (Go.Proofs.Ytcgjplolehhpjaa.H.grown_set _ _ _ _) (by have := HGT.out; simp; omega)⟩, ⟨?_⟩, ⟨blk_far (blk_alloc HO8.out _) (by simp) _⟩⟩
            rw [← HFILL.out]
            exact Go.Proofs.Ytcgjplolehhpjaa.H.rowI_set ⟨blk_alloc HRO.out.blk _⟩ j _
          have HEND := Aside0.mk hend
          clear hend
          have hnxt : wrap64 ((j : Int) + 1) = ((j + 1 : Nat) : Int) := by unfold wrap64; omega
          have HNXT := Aside0.mk hnxt
          clear hnxt
          by_cases hm : s.f2 ∈ ids
          · have hhas : Go.Maps.has D (.int .u64 s.f2) = true := by rw [HMD2.out.has]; exact decide_eq_true hm
            have HAT := Aside0.mk (HMD2.out.at_ s.f2 hm)
            have HM := Aside0.mk hm
            clear hm
            by_cases h0 : s.f2 = 0
            · have hp0 := HPJ.out
              rw [if_pos h0] at hp0
              have HV := Aside0.mk (HEND.out (-1) hp0.symm)
              have h0b : (s.f2 == 0) = true := beq_iff_eq.mpr h0
              clear hp0 h0
              go_wp2_with (at_lookup; refine wpList_lookup_own_ok_int _ rfl _ _ 51 rfl 35 3 .i64 parent_Of_law Try.underlying51 Try.underlying3 (parent_Of_zero _) w.heap.size i _ rfl (HOM.out.alloc _) _ _ rfl hkey ?_; intro c hat hwc)
              go_roundg (gk - 1)
              case measure => omega
              case rel => exact ⟨j + 1, by omega, by go_num, (HV.out _).1, (HV.out _).2.1, (HV.out _).2.2.1, (HV.out _).2.2.2⟩
            · have hp0 := HPJ.out
              rw [if_neg h0] at hp0
              have HV := Aside0.mk (fun c (hc : c = Go.Proofs.Ytcgjplolehhpjaa.H.firstI ids s.f2) => HEND.out c (hc.trans hp0.symm))
              have h0b : (s.f2 == 0) = false := beq_eq_false_iff_ne.mpr h0
              clear hp0 h0
              go_wp2_with (at_lookup; refine wpList_lookup_own_ok_int _ rfl _ _ 51 rfl 35 3 .i64 parent_Of_law Try.underlying51 Try.underlying3 (parent_Of_zero _) w.heap.size i _ rfl (HOM.out.alloc _) _ _ rfl hkey ?_; intro c hat hwc; have HC := Aside0.mk (show c = Go.Proofs.Ytcgjplolehhpjaa.H.firstI ids s.f2 by rw [HAT.out] at hat; simpa using hat.symm); clear hat)
              go_roundg (gk - 1)
              case measure => omega
              case rel => exact ⟨j + 1, by omega, by go_num, (HV.out _ HC.out _).1, (HV.out _ HC.out _).2.1, (HV.out _ HC.out _).2.2.1, (HV.out _ HC.out _).2.2.2⟩
          · have hhas : Go.Maps.has D (.int .u64 s.f2) = false := by rw [HMD2.out.has]; exact decide_eq_false hm
            have hp0 := HPJ.out
            have hf : Go.Proofs.Ytcgjplolehhpjaa.H.firstI ids s.f2 = -1 := by
              have h1 := Go.Proofs.Ytcgjplolehhpjaa.H.firstI_lt ids s.f2
              have h2 := mt Go.Proofs.Ytcgjplolehhpjaa.H.firstI_mem.2 hm
              omega
            rw [hf, show (if s.f2 = 0 then (-1 : Int) else -1) = -1 by split <;> rfl] at hp0
            have HV := Aside0.mk (HEND.out (-1) hp0.symm)
            clear hp0 hf hm
            go_wp2_with (at_lookup; refine wpList_lookup_own_ok_int _ rfl _ _ 51 rfl 35 3 .i64 parent_Of_law Try.underlying51 Try.underlying3 (parent_Of_zero _) w.heap.size i _ rfl (HOM.out.alloc _) _ _ rfl hkey ?_; intro c hat hwc)
            go_roundg (gk - 1)
            case measure => omega
            case rel => exact ⟨j + 1, by omega, by go_num, (HV.out _).1, (HV.out _).2.1, (HV.out _).2.2.1, (HV.out _).2.2.2⟩
        · have hltz2 : ¬ (j : Int) < (l0.length : Int) := by omega
          have HRP := Aside0.mk (show Go.Proofs.Ytcgjplolehhpjaa.H.rowI wr w1.heap.size 3 p by
            have h_ := HRO.out
            rw [List.take_of_length_le (by rw [HLEN.out]; omega), show l0.length - j = 0 by omega, List.replicate_zero, List.append_nil] at h_
            exact h_)
          clear HRO
          obtain ⟨w2, hw2⟩ : ∃ w2, w2 = wr := ⟨_, rfl⟩
          subst hw2
          have hc8 : ∀ o : Obj, (w2.alloc o).cell? ⟨w1.heap.size + 1, 0, none⟩ = some (.slice (some ⟨w1.heap.size, 0, none⟩) l0.length l0.length) := fun o => (blk_cell (blk_alloc HO8.out o) 0).trans rfl
          have HG2 := Aside0.mk (show w1.heap.size + 1 < w2.heap.size from blk_lt HO8.out)
          have hcall := parent_cycles.calls k (some ⟨w1.heap.size, 0, none⟩) p.length p fs 39 #[.pointer (some ⟨w1.heap.size + 1, 0, none⟩), .pointer (some ⟨w2.heap.size, 0, none⟩)] (fun args w => enters_ (P := Try.prog) Try.func39 (by kernel_rfl) rfl args w) (w2.alloc (.cells #[.slice none 0 0] 25 (0, 0))) (parent_Of_St w w1.heap.size (w1.heap.size + 1) w2.heap.size k p)
            (fun W G hb hg => ⟨below_step (below_alloc HBr.out _) hb, HGL.out, by omega, HG2.out, by simp at hg; omega, ⟨blk_below (blk_alloc HRP.out.blk _) hb⟩, by rw [HLEN.out]; exact blk_below (blk_alloc HO8.out _) hb, _, [], rfl, blk_below (blk_new _ _) hb, Kd.R_nil _ _ _ _ _⟩)
            (fun G fs' W W' hs hg => parent_Of_St_grown hs hg)
            (fun G fs' W hs => Go.Proofs.Ytcgjplolehhpjaa.H.rowI_C hs.row (by rw [HLEN.out]; omega))
            (fun G fs' a rest W hfs2 hs hlt => by
              have hl := HLS.out
              rw [hfs2] at hl
              obtain ⟨ls', x, g1, g2, g3⟩ := Go.Proofs.Ytcgjplolehhpjaa.H.leastsF_split hl
              refine parent_Of_found w _ _ _ k p (by rw [HLEN.out]; omega) G fs' a x ls' ?_ g1 g2 g3 W hs hlt
              have g4 := Go.Proofs.Ytcgjplolehhpjaa.H.leastsF_len g1
              have g5 := HFL.out
              rw [hfs2, HLEN.out] at g5
              simp at g5
              omega)
            (by rw [HLEN.out]; omega) (Nat.le_refl _) HFS.out
          rw [HLEN.out] at hcall
          have HCALL := Aside0.mk hcall
          clear hcall
          go_wp2_with (go_at_call 38; refine HCALL.out.mono ?_; rintro e w3 ⟨rfl, G, hs⟩; obtain ⟨v, ls0, g1, g2, g3⟩ := hs.los; obtain rfl : ls0 = ls := Option.some.inj (g1.symm.trans HLS.out); obtain ⟨Av, cv, rfl⟩ := Kd.R_slice g3; have hc13 : w3.cell? ⟨w2.heap.size, 0, none⟩ = some (.slice Av ls0.length cv) := (blk_cell g2 0).trans rfl; have HS := Aside0.mk hs; have HRL := Aside0.mk g3; clear g1 g2 g3 hs)
          clear hc8 HCALL HRP HO8 HOM HBr
          have hlsb : ls0.length ≤ 1000000 := by rw [Go.Proofs.Ytcgjplolehhpjaa.H.leastsF_len HLS.out]; have := HFL.out; rw [HLEN.out] at this; omega
          go_loopg [72] ls0.length (fun d v72 wr => ∃ (j : Nat) (cur : List Int), j + d = ls0.length ∧ v72 = .int .i64 j ∧ Aside0 (Go.Proofs.Ytcgjplolehhpjaa.H.clearF cur (ls0.drop j) = some r) ∧ Aside0 (cur.length = l0.length) ∧ Aside0 (Below w.heap.size w wr) ∧ Aside0 (Go.Proofs.Ytcgjplolehhpjaa.H.rowI wr w1.heap.size 3 cur) ∧ Aside0 (wr.heap[w1.heap.size + 1]? = some (.cells #[.slice (some ⟨w1.heap.size, 0, none⟩) l0.length l0.length] 25 (0, 0))) ∧ Aside0 (Kd.R (Kd.int .i64) 3 wr (w2.heap.size + 1) (fun q => q ≠ G) (.slice Av ls0.length cv) ls0))
          case atStart => exact ⟨0, p, by omega, rfl, HCL, HLEN, ⟨HS.out.below⟩, ⟨HS.out.row⟩, ⟨by have h_ := HS.out.out; rw [HLEN.out] at h_; exact h_⟩, HRL⟩
          case round =>
            clear HRL
            obtain ⟨j2, cur, hj2, rfl, HC2, HL2, HB2, HR2, HO2, HRL⟩ := hrel
            have hc8 : wr.cell? ⟨w1.heap.size + 1, 0, none⟩ = some (.slice (some ⟨w1.heap.size, 0, none⟩) l0.length l0.length) := (blk_cell HO2.out 0).trans rfl
            by_cases hlt3 : j2 < ls0.length
            · have hltz3 : (j2 : Int) < (ls0.length : Int) := by omega
              obtain ⟨ad, e, hx⟩ := Kd.at_int (Kd.R_reads' HRL.out).2.2 (j2 : Int) (by omega) hltz3
              cases e
              have hv : rd ls0 (j2 : Int) = ls0.getD j2 0 := by unfold rd; rw [Int.toNat_natCast]
              rw [hv, Int.toNat_natCast] at hx
              have hcl := HC2.out
              rw [show ls0.drop j2 = ls0.getD j2 0 :: ls0.drop (j2 + 1) by rw [List.drop_eq_getElem_cons hlt3, List.getD_eq_getElem?_getD, List.getElem?_eq_getElem hlt3]; rfl] at hcl
              clear hv
              generalize ls0.getD j2 0 = z at hx hcl
              unfold Go.Proofs.Ytcgjplolehhpjaa.H.clearF at hcl
              by_cases hz0 : 0 ≤ z
              case neg => rw [if_neg hz0] at hcl; cases hcl
              rw [if_pos hz0] at hcl
              by_cases hz1 : z < (cur.length : Int)
              case neg => rw [if_neg hz1] at hcl; cases hcl
              rw [if_pos hz1] at hcl
              have hcell := Go.Proofs.Ytcgjplolehhpjaa.H.rowI_rd HR2.out z hz0 hz1
              have hfr := Go.Proofs.Ytcgjplolehhpjaa.H.rowI_frozen HR2.out z.toNat
              rw [HL2.out] at hz1
              have HCN := Aside0.mk hcl
              clear hcl
              go_wp2_with (fail)
              go_roundg (gk - 1)
              case measure => omega
              case rel => exact ⟨j2 + 1, cur.set z.toNat (-1), by omega, by go_num, HCN, ⟨by rw [List.length_set]; exact HL2.out⟩, ⟨below_set HB2.out HGL.out⟩, ⟨Go.Proofs.Ytcgjplolehhpjaa.H.rowI_set HR2.out _ _⟩, ⟨blk_far HO2.out (by simp) _⟩, ⟨Kd.R_mono (Kd.R_far (Kd.R_bound HRL.out) (p := ⟨w1.heap.size, z.toNat, none⟩) (fun q hq => by have := hq.2.1; have := HG2.out; show q ≠ w1.heap.size; omega) _) (fun q hq => hq.1)⟩⟩
            · have hltz3 : ¬ (j2 : Int) < (ls0.length : Int) := by omega
              have hcl := HC2.out
              rw [List.drop_of_length_le (by omega)] at hcl
              obtain rfl := Option.some.inj (show some cur = some r from hcl)
              go_wp2_with (fail)
              go_ret
              refine ⟨_, rfl, ?_, HB2.out⟩
              have h_ := Go.Proofs.Ytcgjplolehhpjaa.H.rowI_R HR2.out HGL.out (by rw [HL2.out]; omega)
              rw [HL2.out] at h_
              exact h_


/-! ### parent_Right: function 25 -/
def parent_Right.f (k : Nat) (l0 : List Int) : Option Bool := if l0.length ≤ 1000000 then (if Go.Proofs.Ytcgjplolehhpjaa.H.okB l0 = true then (Go.Proofs.Ytcgjplolehhpjaa.H.cyclesF k l0).map (fun fs => fs.isEmpty) else some false) else none
theorem parent_Right.mono : ∀ a0 k, LeO (parent_Right.f k a0) (parent_Right.f (k + 1) a0) := by
  intro a0 k
  unfold parent_Right.f
  exact LeO.ite (LeO.ite (LeO.map _ (Go.Proofs.Ytcgjplolehhpjaa.H.cyclesF_mono k a0)) (LeO.refl _)) (LeO.refl _)
set_option maxHeartbeats 8000000 in
set_option maxRecDepth 100000 in
theorem parent_Right_found (R : Nat) (a : Int) (b : Bool) (W : World) (hb : W.heap[R]? = some (.cells #[.bool b] 4 (0, 0))) :
    Calls Try.prog 42 #[.int .i64 a, .pointer (some ⟨R, 0, none⟩)] W fun e w' => e = .returned (.tuple #[]) ∧ w' = W.setCell ⟨R, 0, none⟩ (.bool false) := by
  have hc : W.cell? ⟨R, 0, none⟩ = some (.bool b) := (blk_cell hb 0).trans rfl
  have hf := blk_frozen hb 0
  go_enter Try.func42, Try.ntmps42
  go_wp2
  go_end0
  exact ⟨rfl, rfl⟩
structure parent_Right_St (w : World) (R G : Nat) (fs : List Int) (W : World) : Prop where
  below : Below w.heap.size w W
  far : w.heap.size ≤ R
  lt : R < G
  blk : W.heap[R]? = some (.cells #[.bool fs.isEmpty] 4 (0, 0))
set_option maxHeartbeats 8000000 in
set_option maxRecDepth 100000 in
theorem parent_Right.calls (k : Nat) (A0 : Option Addr) (c0 : Nat) (l0 : List Int) (r : Bool) (w : World) (hr0 : Kd.C (Kd.int .i64) w A0 l0.length l0) (hc0 : l0.length ≤ c0) (h : parent_Right.f k l0 = some r) :
    Calls Try.prog 25 #[.slice A0 l0.length c0] w fun e w' => e = .returned (.bool r) ∧ Below w.heap.size w w' := by
  unfold parent_Right.f at h
  by_cases hn : l0.length ≤ 1000000
  case neg => rw [if_neg hn] at h; cases h
  rw [if_pos hn] at h
  have HR := Aside0.mk hr0
  have HB := Aside0.mk (Below.refl w.heap.size w)
  have HH := Aside0.mk h
  have HC := Aside0.mk hc0
  clear h hr0 hc0
  have hmf : ∀ (fn : Fn) (first cap : Array Value) (w : World), (Instr.makeFunc fn first cap).run Try.prog w = .ok (.func fn first cap) w := fun _ _ _ _ => rfl
  have hcyc : ∀ fs, Go.Proofs.Ytcgjplolehhpjaa.H.cyclesF k l0 = some fs → Calls Try.prog 38 #[.slice A0 l0.length c0, .func (.func 42) #[] #[.pointer (some ⟨w.heap.size, 0, none⟩)]] (w.alloc (.cells #[.bool true] 4 (0, 0))) fun e w' => e = .returned (.tuple #[]) ∧ ∃ G, parent_Right_St w w.heap.size G fs w' := fun fs hfs =>
    parent_cycles.calls k A0 c0 l0 fs 42 #[.pointer (some ⟨w.heap.size, 0, none⟩)] (fun args w => enters_ (P := Try.prog) Try.func42 (by kernel_rfl) rfl args w) _ (parent_Right_St w w.heap.size)
      (fun W G hb hg => ⟨below_step (below_alloc (Below.refl _ _) _) hb, Nat.le_refl _, by simp at hg; omega, blk_below (blk_new _ _) hb⟩)
      (fun G fs' W W' hs hg => ⟨pw_below_grown hs.below (some G) hs.below.size hg (fun k_ e => by have := Option.some.inj e; have := hs.lt; omega), hs.far, hs.lt, blk_grown hs.blk hg (by have := hs.lt; simp; omega)⟩)
      (fun G fs' W hs => Kd.C_below HR.out hs.below)
      (fun G fs' a rest W _ hs hlt => (parent_Right_found w.heap.size a _ W hs.blk).mono fun e w' ⟨he, hw⟩ => ⟨he, by subst hw; exact ⟨below_set hs.below (Nat.le_refl _), hs.far, hs.lt, by rw [show (fs' ++ [a]).isEmpty = false by simp]; exact blk_set hs.blk 0 (.bool false)⟩, by subst hw; simp, by subst hw; exact Below.heap_setCell W _ _ G (by have := hs.lt; simp; omega)⟩)
      hn HC.out hfs
  have HCYC := Aside0.mk hcyc
  clear hcyc
  go_enter Try.func25, Try.ntmps25
  go_wp2
  go_loopg [8] l0.length (fun d v8 wr => ∃ (i : Nat), i + d = l0.length ∧ v8 = .int .i64 i ∧ w = wr ∧ Aside0 (∀ j, j < i → -1 ≤ l0.getD j 0 ∧ l0.getD j 0 < (l0.length : Int)))
  case atStart => exact ⟨0, by omega, rfl, rfl, ⟨fun j hj => absurd hj (Nat.not_lt_zero _)⟩⟩
  case round =>
    obtain ⟨i, hi, rfl, rfl, HN⟩ := hrel
    by_cases hlt : i < l0.length
    · have hltz : (i : Int) < (l0.length : Int) := by omega
      obtain ⟨ad, e, hx⟩ := Kd.at_int HR.out (i : Int) (by omega) hltz
      cases e
      have hv : rd l0 (i : Int) = l0.getD i 0 := by unfold rd; rw [Int.toNat_natCast]
      rw [hv, Int.toNat_natCast] at hx
      have HV := Aside0.mk hv
      clear hv
      by_cases hq : -1 ≤ l0.getD i 0 ∧ l0.getD i 0 < (l0.length : Int)
      · have h1 : decide (l0.getD i 0 < -1) = false := decide_eq_false (by omega)
        have h2 : decide ((l0.length : Int) ≤ l0.getD i 0) = false := decide_eq_false (by omega)
        have HQ := Aside0.mk hq
        generalize hz : l0.getD i 0 = z at hx h1 h2
        have HZ := Aside0.mk hz
        clear hz hq
        go_wp2
        go_roundg (gk - 1)
        case measure => omega
        case rel => exact ⟨i + 1, by omega, by go_num, rfl, ⟨fun j hj => by
          rcases Nat.lt_or_ge j i with h3 | h3
          · exact HN.out j h3
          · obtain rfl : j = i := by omega
            exact HQ.out⟩⟩
      · have HF := Aside0.mk (Go.Proofs.Ytcgjplolehhpjaa.H.okB_false hlt hq)
        have hr : r = false := by
          have hh := HH.out
          rw [if_neg (by rw [HF.out]; decide)] at hh
          exact (Option.some.inj hh).symm
        subst hr
        have HQ := Aside0.mk hq
        by_cases h1 : l0.getD i 0 < -1
        · have h1b : decide (l0.getD i 0 < -1) = true := decide_eq_true h1
          generalize l0.getD i 0 = z at hx h1b
          clear hq h1
          go_wp2
          go_ret
          exact ⟨rfl, HB.out⟩
        · have h1b : decide (l0.getD i 0 < -1) = false := decide_eq_false h1
          have h2b : decide ((l0.length : Int) ≤ l0.getD i 0) = true := decide_eq_true (by omega)
          generalize l0.getD i 0 = z at hx h1b h2b
          clear hq h1
          go_wp2
          go_ret
          exact ⟨rfl, HB.out⟩
    · have hltz : ¬ (i : Int) < (l0.length : Int) := by omega
      have HF := Aside0.mk (Go.Proofs.Ytcgjplolehhpjaa.H.okB_true (p := l0) (fun j hj => HN.out j (by omega)))
      have hh := HH.out
      rw [if_pos HF.out] at hh
      obtain ⟨fs, hfs, hr⟩ := Option.map_eq_some_iff.mp hh
      have HFS := Aside0.mk (HCYC.out fs hfs)
      have HRR := Aside0.mk hr
      clear hh hfs hr HCYC
      go_wp2_with (go_at_call 38; refine HFS.out.mono ?_; rintro e w2 ⟨rfl, G, hs⟩; have hc2 : w2.cell? ⟨w.heap.size, 0, none⟩ = some (.bool fs.isEmpty) := (blk_cell hs.blk 0).trans rfl)
      go_ret
      exact ⟨by first | rfl | (rw [← HRR.out]; rfl), hs.below⟩


end Go.Proofs.Ytcgjplolehhpjaa.K
