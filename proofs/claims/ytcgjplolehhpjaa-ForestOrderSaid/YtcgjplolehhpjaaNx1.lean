-- WRITTEN FOR THIS CLAIM by wip/tools/mp.py, a program of this project that drives the kit's print; the functions that the print does not take are this project's own texts.
import Derived.Test.YtcgjplolehhpjaaNx0
namespace Go.Proofs.Ytcgjplolehhpjaa.N
open Go.RowKit Go.Proofs.YtcgjplolehhpjaaW.PrintWords Go.Proofs.YtcgjplolehhpjaaW.PrintLast Go.Proofs.YtcgjplolehhpjaaW.PrintMore
attribute [local go_sem] max2_int min2_int max_two min_two max_three min_three max_four min_four   -- for this text's walks alone
set_option linter.unusedVariables false
set_option linter.unusedSimpArgs false

/-! ### parent_cycles: function 38 -/
set_option maxHeartbeats 8000000 in
set_option maxRecDepth 100000 in
theorem parent_cycles.calls (k : Nat) (A0 : Option Addr) (c0 : Nat) (l0 : List Int) (fs : List Int) (g : Nat) (lb : Array Value) (eg : ∀ args w, (callFunc g args).run Try.prog w = .ok (.enter g args) w) (w : World) (St : Nat → List Int → World → Prop)
    (hI : ∀ W G, Below w.heap.size w W → w.heap.size ≤ G → St G [] W)
    (hS : ∀ G fs' W W', St G fs' W → W.grownBy W' (some G) → St G fs' W')
    (hC : ∀ G fs' W, St G fs' W → Kd.C (Kd.int .i64) W A0 l0.length l0)
    (hF : ∀ G fs' a rest W, fs = fs' ++ a :: rest → St G fs' W → G < W.heap.size → Calls Try.prog g (#[.int .i64 a] ++ lb) W fun e w' => e = .returned (.tuple #[]) ∧ St G (fs' ++ [a]) w' ∧ W.heap.size ≤ w'.heap.size ∧ w'.heap[G]? = W.heap[G]?)
    (hn : l0.length ≤ 1000000) (hc0 : l0.length ≤ c0)
    (h : Go.Proofs.Ytcgjplolehhpjaa.H.cyclesF k l0 = some fs) :
    Calls Try.prog 38 #[.slice A0 l0.length c0, .func (.func g) #[] lb] w fun e w' => e = .returned (.tuple #[]) ∧ ∃ G, St G fs w' := by
  have hmk := print_make (P := Try.prog) 25 3 .i64 8 Try.underlying25 info3 (by decide) l0.length (by omega)
  have HI := Aside0.mk (hI (w.alloc (.cells (madeCells #[.int .i64 0] l0.length) 3)) w.heap.size (below_alloc (Below.refl _ _) _) (Nat.le_refl _))
  have HS := Aside0.mk hS
  have HC := Aside0.mk hC
  have HF := Aside0.mk hF
  have HH := Aside0.mk h
  clear hI hS hC hF h
  go_enter Try.func38, Try.ntmps38
  go_wp2
  go_loopg [12] l0.length (fun d v12 wr => ∃ (i : Nat) (st fs' : List Int), i + d = l0.length ∧ v12 = .int .i64 i ∧ Aside0 (Go.Proofs.Ytcgjplolehhpjaa.H.outF l0 k d st fs' = some fs) ∧ Aside0 (Go.Proofs.Ytcgjplolehhpjaa.H.rowI wr w.heap.size 3 st) ∧ Aside0 (st.length = l0.length) ∧ Aside0 (St w.heap.size fs' wr))
  case atStart => exact ⟨0, List.replicate l0.length 0, [], by omega, rfl, HH, ⟨Go.Proofs.Ytcgjplolehhpjaa.H.rowI_made _ _ _⟩, ⟨by simp⟩, HI⟩
  case round =>
    obtain ⟨i, st, fs', hi, rfl, HO, HR, HL, HT⟩ := hrel
    by_cases hlt : i < l0.length
    · obtain ⟨d, rfl⟩ : ∃ d, gk = d + 1 := ⟨gk - 1, by omega⟩
      have ho := HO.out
      unfold Go.Proofs.Ytcgjplolehhpjaa.H.outF at ho
      rw [show l0.length - (d + 1) = i by omega] at ho
      obtain ⟨⟨st1, f⟩, hw, ho⟩ := Option.bind_eq_some_iff.mp ho
      obtain ⟨st2, hb, ho⟩ := Option.bind_eq_some_iff.mp ho
      have HW := Aside0.mk hw
      have HB := Aside0.mk hb
      have HO2 := Aside0.mk ho
      clear hw hb ho HO
      have hltz : (i : Int) < (l0.length : Int) := by omega
      go_wp2
      go_step3
      go_wp2
      go_step3
      go_upto_block 2 with fail
      go_cut [12] (fun v12 wc => v12 = .int .i64 i ∧ Aside0 (Go.Proofs.Ytcgjplolehhpjaa.H.rowI wc w.heap.size 3 st1) ∧ Aside0 (st1.length = l0.length) ∧ Aside0 (St w.heap.size (fs' ++ f.toList) wc))
      case first =>
        have hpre : ∀ a, f = some a → ∃ rest, fs = fs' ++ a :: rest := fun a e => by
          obtain ⟨rest, hr⟩ := Go.Proofs.Ytcgjplolehhpjaa.H.outF_prefix d st2 _ fs HO2.out
          exact ⟨rest, by rw [hr, e]; simp⟩
        have HPRE := Aside0.mk hpre
        clear hpre
        go_wp2_with (fail)
        go_loopg [6] k (fun kq v6 wr => ∃ (a : Int) (st' : List Int), v6 = .int .i64 a ∧ Aside0 (Go.Proofs.Ytcgjplolehhpjaa.H.walkF l0 kq st' a = some (st1, f)) ∧ Aside0 (Go.Proofs.Ytcgjplolehhpjaa.H.rowI wr w.heap.size 3 st') ∧ Aside0 (st'.length = l0.length) ∧ Aside0 (St w.heap.size fs' wr))
        case atStart => exact ⟨i, st, rfl, HW, HR, HL, HT⟩
        case round =>
          obtain ⟨a, st', rfl, HWq, HRq, HLq, HTq⟩ := hrel
          cases gk with
          | zero => exact absurd HWq.out (by simp [Go.Proofs.Ytcgjplolehhpjaa.H.walkF])
          | succ kq =>
            have hw := HWq.out
            unfold Go.Proofs.Ytcgjplolehhpjaa.H.walkF at hw
            clear HWq
            by_cases c1 : a < 0
            · rw [if_pos c1] at hw
              obtain ⟨rfl, rfl⟩ := Prod.mk.inj (Option.some.inj hw)
              clear hw
              go_wp2_with (fail)
              go_meet
              exact ⟨rfl, HRq, HLq, ⟨by rw [show (none : Option Int).toList = [] from rfl, List.append_nil]; exact HTq.out⟩⟩
            · rw [if_neg c1] at hw
              by_cases c2 : a < (st'.length : Int)
              case neg => rw [if_neg c2] at hw; cases hw
              rw [if_pos c2] at hw
              have ha0 : 0 ≤ a := by omega
              have hcell := Go.Proofs.Ytcgjplolehhpjaa.H.rowI_cell HRq.out a ha0 c2
              have hfr := Go.Proofs.Ytcgjplolehhpjaa.H.rowI_frozen HRq.out a.toNat
              have ha1 : a < (l0.length : Int) := by rw [← HLq.out]; exact c2
              clear c1 c2
              by_cases c3 : st'.getD a.toNat 0 = 2
              · rw [if_pos c3] at hw
                obtain ⟨rfl, rfl⟩ := Prod.mk.inj (Option.some.inj hw)
                clear hw
                rw [c3] at hcell
                clear c3
                go_wp2_with (fail)
                go_meet
                exact ⟨rfl, HRq, HLq, ⟨by rw [show (none : Option Int).toList = [] from rfl, List.append_nil]; exact HTq.out⟩⟩
              · rw [if_neg c3] at hw
                by_cases c4 : st'.getD a.toNat 0 = 1
                · rw [if_pos c4] at hw
                  obtain ⟨rfl, rfl⟩ := Prod.mk.inj (Option.some.inj hw)
                  clear hw c3
                  rw [c4] at hcell
                  clear c4
                  obtain ⟨rest, hrest⟩ := HPRE.out a rfl
                  have hcall := HF.out w.heap.size fs' a rest wr hrest HTq.out (Go.Proofs.Ytcgjplolehhpjaa.H.rowI_lt HRq.out)
                  have HCALL := Aside0.mk hcall
                  clear hrest hcall
                  go_wp2_with (go_at_fn g; refine HCALL.out.mono ?_; rintro e w' ⟨rfl, ht, hsz, hsame⟩)
                  go_meet
                  exact ⟨rfl, ⟨Go.Proofs.Ytcgjplolehhpjaa.H.rowI_same HRq.out hsame⟩, HLq, ⟨ht⟩⟩
                · rw [if_neg c4, if_pos ha1] at hw
                  have hv2 : (st'.getD a.toNat 0 == 2) = false := by simpa using c3
                  have hv1 : (st'.getD a.toNat 0 == 1) = false := by simpa using c4
                  generalize st'.getD a.toNat 0 = v at hcell hv2 hv1
                  clear c3 c4
                  have HTn := Aside0.mk (HS.out _ _ _ _ HTq.out (Go.Proofs.Ytcgjplolehhpjaa.H.grown_set wr w.heap.size a.toNat (.int .i64 1)))
                  obtain ⟨ad, e, hx⟩ := Kd.at_int (HC.out _ _ _ HTn.out) a ha0 ha1
                  cases e
                  have HWn := Aside0.mk hw
                  clear hw
                  go_wp2_with (fail)
                  go_roundg kq
                  case measure => omega
                  case rel => exact ⟨_, st'.set a.toNat 1, rfl, HWn, ⟨Go.Proofs.Ytcgjplolehhpjaa.H.rowI_set HRq.out _ _⟩, ⟨by rw [List.length_set]; exact HLq.out⟩, HTn⟩
      case rest =>
        clear HW HR HL HT
        obtain ⟨rfl, HR1, HL1, HT1⟩ := hcut
        go_wp2_with (fail)
        go_loopg [6] k (fun kq v6 wr => ∃ (a : Int) (st' : List Int), v6 = .int .i64 a ∧ Aside0 (Go.Proofs.Ytcgjplolehhpjaa.H.backF l0 kq st' a = some st2) ∧ Aside0 (Go.Proofs.Ytcgjplolehhpjaa.H.rowI wr w.heap.size 3 st') ∧ Aside0 (st'.length = l0.length) ∧ Aside0 (St w.heap.size (fs' ++ f.toList) wr))
        case atStart => exact ⟨i, st1, rfl, HB, HR1, HL1, HT1⟩
        case round =>
          obtain ⟨a, st', rfl, HWq, HRq, HLq, HTq⟩ := hrel
          cases gk with
          | zero => exact absurd HWq.out (by simp [Go.Proofs.Ytcgjplolehhpjaa.H.backF])
          | succ kq =>
            have hw := HWq.out
            unfold Go.Proofs.Ytcgjplolehhpjaa.H.backF at hw
            clear HWq
            by_cases c1 : a < 0
            · rw [if_pos c1] at hw
              obtain rfl := Option.some.inj hw
              clear hw
              have hge : decide (0 ≤ a) = false := by simpa using c1
              go_wp2_with (fail)
              rw [Exit.noGoto_normal]
              go_wp2_with (fail)
              go_roundg d
              case measure => omega
              case rel => exact ⟨i + 1, st', fs' ++ f.toList, by omega, by go_num, HO2, HRq, HLq, HTq⟩
            · rw [if_neg c1] at hw
              by_cases c2 : a < (st'.length : Int)
              case neg => rw [if_neg c2] at hw; cases hw
              rw [if_pos c2] at hw
              have ha0 : 0 ≤ a := by omega
              have hcell := Go.Proofs.Ytcgjplolehhpjaa.H.rowI_cell HRq.out a ha0 c2
              have hfr := Go.Proofs.Ytcgjplolehhpjaa.H.rowI_frozen HRq.out a.toNat
              have ha1 : a < (l0.length : Int) := by rw [← HLq.out]; exact c2
              clear c1 c2
              by_cases c4 : st'.getD a.toNat 0 = 1
              · rw [if_pos c4, if_pos ha1] at hw
                rw [c4] at hcell
                clear c4
                have HTn := Aside0.mk (HS.out _ _ _ _ HTq.out (Go.Proofs.Ytcgjplolehhpjaa.H.grown_set wr w.heap.size a.toNat (.int .i64 2)))
                obtain ⟨ad, e, hx⟩ := Kd.at_int (HC.out _ _ _ HTn.out) a ha0 ha1
                cases e
                have HWn := Aside0.mk hw
                clear hw
                go_wp2_with (fail)
                go_roundg kq
                case measure => omega
                case rel => exact ⟨_, st'.set a.toNat 2, rfl, HWn, ⟨Go.Proofs.Ytcgjplolehhpjaa.H.rowI_set HRq.out _ _⟩, ⟨by rw [List.length_set]; exact HLq.out⟩, HTn⟩
              · rw [if_neg c4] at hw
                obtain rfl := Option.some.inj hw
                clear hw
                have hv1 : (st'.getD a.toNat 0 == 1) = false := by simpa using c4
                generalize st'.getD a.toNat 0 = v at hcell hv1
                clear c4
                go_wp2_with (fail)
                rw [Exit.noGoto_normal]
                go_wp2_with (fail)
                go_roundg d
                case measure => omega
                case rel => exact ⟨i + 1, st', fs' ++ f.toList, by omega, by go_num, HO2, HRq, HLq, HTq⟩
    · have hltz : ¬ (i : Int) < (l0.length : Int) := by omega
      obtain rfl : gk = 0 := by omega
      have he := Option.some.inj (show some fs' = some fs from HO.out)
      subst he
      go_wp2_with (fail)
      go_end0
      exact ⟨rfl, _, HT.out⟩


/-! ### parent_Right: function 25 -/
def parent_Right.f (k : Nat) (l0 : List Int) : Option Bool := if l0.length ≤ 1000000 then (if Go.Proofs.Ytcgjplolehhpjaa.H.okB l0 = true then (Go.Proofs.Ytcgjplolehhpjaa.H.cyclesF k l0).map (fun fs => fs.isEmpty) else some false) else none
theorem parent_Right.mono : ∀ a0 k, LeO (parent_Right.f k a0) (parent_Right.f (k + 1) a0) := by
  intro a0 k
  unfold parent_Right.f
  exact LeO.ite (LeO.ite (LeO.map _ (Go.Proofs.Ytcgjplolehhpjaa.H.cyclesF_mono k a0)) (LeO.refl _)) (LeO.refl _)
set_option maxHeartbeats 8000000 in
set_option maxRecDepth 100000 in
theorem parent_Right_found (R : Nat) (a : Int) (b : Bool) (W : World) (hb : W.heap[R]? = some (.cells #[.bool b] 4 (0, 0))) :
    Calls Try.prog 42 #[.int .i64 a, .pointer (some ⟨R, 0, none⟩)] W fun e w' => e = .returned (.tuple #[]) ∧ w' = W.setCell ⟨R, 0, none⟩ (.bool false) := by
  have hc : W.cell? ⟨R, 0, none⟩ = some (.bool b) := (blk_cell hb 0).trans rfl
  have hf := blk_frozen hb 0
  go_enter Try.func42, Try.ntmps42
  go_wp2
  go_end0
  exact ⟨rfl, rfl⟩
structure parent_Right_St (w : World) (R G : Nat) (fs : List Int) (W : World) : Prop where
  below : Below w.heap.size w W
  far : w.heap.size ≤ R
  lt : R < G
  blk : W.heap[R]? = some (.cells #[.bool fs.isEmpty] 4 (0, 0))
set_option maxHeartbeats 8000000 in
set_option maxRecDepth 100000 in
theorem parent_Right.calls (k : Nat) (A0 : Option Addr) (c0 : Nat) (l0 : List Int) (r : Bool) (w : World) (hr0 : Kd.C (Kd.int .i64) w A0 l0.length l0) (hc0 : l0.length ≤ c0) (h : parent_Right.f k l0 = some r) :
    Calls Try.prog 25 #[.slice A0 l0.length c0] w fun e w' => e = .returned (.bool r) ∧ Below w.heap.size w w' := by
  unfold parent_Right.f at h
  by_cases hn : l0.length ≤ 1000000
  case neg => rw [if_neg hn] at h; cases h
  rw [if_pos hn] at h
  have HR := Aside0.mk hr0
  have HB := Aside0.mk (Below.refl w.heap.size w)
  have HH := Aside0.mk h
  have HC := Aside0.mk hc0
  clear h hr0 hc0
  have hmf : ∀ (fn : Fn) (first cap : Array Value) (w : World), (Instr.makeFunc fn first cap).run Try.prog w = .ok (.func fn first cap) w := fun _ _ _ _ => rfl
  have hcyc : ∀ fs, Go.Proofs.Ytcgjplolehhpjaa.H.cyclesF k l0 = some fs → Calls Try.prog 38 #[.slice A0 l0.length c0, .func (.func 42) #[] #[.pointer (some ⟨w.heap.size, 0, none⟩)]] (w.alloc (.cells #[.bool true] 4 (0, 0))) fun e w' => e = .returned (.tuple #[]) ∧ ∃ G, parent_Right_St w w.heap.size G fs w' := fun fs hfs =>
    parent_cycles.calls k A0 c0 l0 fs 42 #[.pointer (some ⟨w.heap.size, 0, none⟩)] (fun args w => enters_ (P := Try.prog) Try.func42 (by kernel_rfl) rfl args w) _ (parent_Right_St w w.heap.size)
      (fun W G hb hg => ⟨below_step (below_alloc (Below.refl _ _) _) hb, Nat.le_refl _, by simp at hg; omega, blk_below (blk_new _ _) hb⟩)
      (fun G fs' W W' hs hg => ⟨pw_below_grown hs.below (some G) hs.below.size hg (fun k_ e => by have := Option.some.inj e; have := hs.lt; omega), hs.far, hs.lt, blk_grown hs.blk hg (by have := hs.lt; simp; omega)⟩)
      (fun G fs' W hs => Kd.C_below HR.out hs.below)
      (fun G fs' a rest W _ hs hlt => (parent_Right_found w.heap.size a _ W hs.blk).mono fun e w' ⟨he, hw⟩ => ⟨he, by subst hw; exact ⟨below_set hs.below (Nat.le_refl _), hs.far, hs.lt, by rw [show (fs' ++ [a]).isEmpty = false by simp]; exact blk_set hs.blk 0 (.bool false)⟩, by subst hw; simp, by subst hw; exact Below.heap_setCell W _ _ G (by have := hs.lt; simp; omega)⟩)
      hn HC.out hfs
  have HCYC := Aside0.mk hcyc
  clear hcyc
  go_enter Try.func25, Try.ntmps25
  go_wp2
  go_loopg [8] l0.length (fun d v8 wr => ∃ (i : Nat), i + d = l0.length ∧ v8 = .int .i64 i ∧ w = wr ∧ Aside0 (∀ j, j < i → -1 ≤ l0.getD j 0 ∧ l0.getD j 0 < (l0.length : Int)))
  case atStart => exact ⟨0, by omega, rfl, rfl, ⟨fun j hj => absurd hj (Nat.not_lt_zero _)⟩⟩
  case round =>
    obtain ⟨i, hi, rfl, rfl, HN⟩ := hrel
    by_cases hlt : i < l0.length
    · have hltz : (i : Int) < (l0.length : Int) := by omega
      obtain ⟨ad, e, hx⟩ := Kd.at_int HR.out (i : Int) (by omega) hltz
      cases e
      have hv : rd l0 (i : Int) = l0.getD i 0 := by unfold rd; rw [Int.toNat_natCast]
      rw [hv, Int.toNat_natCast] at hx
      have HV := Aside0.mk hv
      clear hv
      by_cases hq : -1 ≤ l0.getD i 0 ∧ l0.getD i 0 < (l0.length : Int)
      · have h1 : decide (l0.getD i 0 < -1) = false := decide_eq_false (by omega)
        have h2 : decide ((l0.length : Int) ≤ l0.getD i 0) = false := decide_eq_false (by omega)
        have HQ := Aside0.mk hq
        generalize hz : l0.getD i 0 = z at hx h1 h2
        have HZ := Aside0.mk hz
        clear hz hq
        go_wp2
        go_roundg (gk - 1)
        case measure => omega
        case rel => exact ⟨i + 1, by omega, by go_num, rfl, ⟨fun j hj => by
          rcases Nat.lt_or_ge j i with h3 | h3
          · exact HN.out j h3
          · obtain rfl : j = i := by omega
            exact HQ.out⟩⟩
      · have HF := Aside0.mk (Go.Proofs.Ytcgjplolehhpjaa.H.okB_false hlt hq)
        have hr : r = false := by
          have hh := HH.out
          rw [if_neg (by rw [HF.out]; decide)] at hh
          exact (Option.some.inj hh).symm
        subst hr
        have HQ := Aside0.mk hq
        by_cases h1 : l0.getD i 0 < -1
        · have h1b : decide (l0.getD i 0 < -1) = true := decide_eq_true h1
          generalize l0.getD i 0 = z at hx h1b
          clear hq h1
          go_wp2
          go_ret
          exact ⟨rfl, HB.out⟩
        · have h1b : decide (l0.getD i 0 < -1) = false := decide_eq_false h1
          have h2b : decide ((l0.length : Int) ≤ l0.getD i 0) = true := decide_eq_true (by omega)
          generalize l0.getD i 0 = z at hx h1b h2b
          clear hq h1
          go_wp2
          go_ret
          exact ⟨rfl, HB.out⟩
    · have hltz : ¬ (i : Int) < (l0.length : Int) := by omega
      have HF := Aside0.mk (Go.Proofs.Ytcgjplolehhpjaa.H.okB_true (p := l0) (fun j hj => HN.out j (by omega)))
      have hh := HH.out
      rw [if_pos HF.out] at hh
      obtain ⟨fs, hfs, hr⟩ := Option.map_eq_some_iff.mp hh
      have HFS := Aside0.mk (HCYC.out fs hfs)
      have HRR := Aside0.mk hr
      clear hh hfs hr HCYC
      go_wp2_with (go_at_call 38; refine HFS.out.mono ?_; rintro e w2 ⟨rfl, G, hs⟩; have hc2 : w2.cell? ⟨w.heap.size, 0, none⟩ = some (.bool fs.isEmpty) := (blk_cell hs.blk 0).trans rfl)
      go_ret
      exact ⟨by first | rfl | (rw [← HRR.out]; rfl), hs.below⟩


/-! ### forest_Row: function 21 -/
def forest_Row_it (x : Go.Proofs.Ytcgjplolehhpjaa.H.It3) : S34 := ⟨x.1, x.2.1, x.2.2⟩
def forest_Row.f (k : Nat) (l0 : List Int) : Option (List S34) :=
  (parent_Right.f k l0).bind fun r => if r = true then (if l0.length ≤ 1000000 ∧ Go.Proofs.Ytcgjplolehhpjaa.H.okB l0 = true then (Go.Proofs.Ytcgjplolehhpjaa.H.rowK l0 k (-1) 0).bind fun its => if its.length ≤ 1000000 then some (its.map forest_Row_it) else none else none) else some []
theorem forest_Row.mono : ∀ a0 k, LeO (forest_Row.f k a0) (forest_Row.f (k + 1) a0) := by
  intro a0 k
  exact LeO.bind (parent_Right.mono _ _) (fun _ => LeO.ite (LeO.ite (LeO.bind (Go.Proofs.Ytcgjplolehhpjaa.H.rowK_mono _ _ _ _) (fun _ => LeO.refl _)) (LeO.refl _)) (LeO.refl _))
theorem forest_Row_law : Go.Maps.Keyed Try.prog 3 := Go.Maps.int_keyed Try.underlying3
theorem forest_Row_zero (w : World) : (zeroValue 25).run Try.prog w = .ok (.slice none 0 0) w := by kernel_rfl
structure forest_Row_St (W0 : World) (B3 : Nat) (v : Value) (out : List S34) (W : World) : Prop where
  below : Below W0.heap.size W0 W
  b6 : W.heap[W0.heap.size]? = some (.cells #[v] 29 (0, 0))
  b7 : W.heap[W0.heap.size + 1]? = some (.cells #[.func (.func 41) #[] #[.pointer (some ⟨B3, 0, none⟩), .pointer (some ⟨W0.heap.size, 0, none⟩), .pointer (some ⟨W0.heap.size + 1, 0, none⟩)]] 56 (0, 0))
  row : Kd.R k34 34 W (W0.heap.size + 2) (fun _ => True) v out
set_option maxHeartbeats 8000000 in
set_option maxRecDepth 100000 in
theorem forest_Row_below (W0 : World) (B3 b : Nat) (p : List Int) (hp : Go.Proofs.Ytcgjplolehhpjaa.H.okP p) (hpl : p.length ≤ 1000000) (h3 : W0.heap[B3]? = some (.cells #[.map (some b)] 55 (0, 0)))
    (hL : ∀ (a : Int), -1 ≤ a → a < (p.length : Int) → ∀ W, Below W0.heap.size W0 W → ∃ A c, (Go.Proofs.Ytcgjplolehhpjaa.H.kidsI p p.length a).length ≤ c ∧ (Instr.lookup 55 (.map (some b)) (.int .i64 a) false).run Try.prog W = .ok (.slice A (Go.Proofs.Ytcgjplolehhpjaa.H.kidsI p p.length a).length c) W ∧ Kd.C (Kd.int .i64) W0 A (Go.Proofs.Ytcgjplolehhpjaa.H.kidsI p p.length a).length (Go.Proofs.Ytcgjplolehhpjaa.H.kidsI p p.length a)) :
    ∀ (k : Nat) (a : Int) (d : Nat) (its : List Go.Proofs.Ytcgjplolehhpjaa.H.It3) (v : Value) (out : List S34) (W : World), -1 ≤ a → a < (p.length : Int) → Go.Proofs.Ytcgjplolehhpjaa.H.rowK p k a d = some its → out.length + its.length ≤ 1000000 → forest_Row_St W0 B3 v out W →
    Calls Try.prog 41 #[.int .i64 a, .int .i64 d, .pointer (some ⟨B3, 0, none⟩), .pointer (some ⟨W0.heap.size, 0, none⟩), .pointer (some ⟨W0.heap.size + 1, 0, none⟩)] W fun e w' => e = .returned (.tuple #[]) ∧ ∃ v', forest_Row_St W0 B3 v' (out ++ its.map forest_Row_it) w' := by
  intro k
  induction k with
  | zero => intro a d its v out W ha0 ha1 h; simp [Go.Proofs.Ytcgjplolehhpjaa.H.rowK] at h
  | succ k ih =>
    intro a d its v out W ha0 ha1 h hn hs
    by_cases hd : d ≤ 1000000
    case neg => rw [Go.Proofs.Ytcgjplolehhpjaa.H.rowK, if_neg hd] at h; cases h
    rw [Go.Proofs.Ytcgjplolehhpjaa.H.rowK, if_pos hd] at h
    obtain ⟨A, c, hc, hrun, hC⟩ := hL a ha0 ha1 W hs.below
    have hkid := Go.Proofs.Ytcgjplolehhpjaa.H.kidsI_all p a
    have hkl : (Go.Proofs.Ytcgjplolehhpjaa.H.kidsI p p.length a).length = (Go.Proofs.Ytcgjplolehhpjaa.H.kidsN p a).length := by rw [hkid, List.length_map]
    have hkb : (Go.Proofs.Ytcgjplolehhpjaa.H.kidsN p a).length ≤ 1000000 := by rw [← hkl]; exact Nat.le_trans (Go.Proofs.Ytcgjplolehhpjaa.H.kidsI_length_le p _ a) hpl
    rw [hkl] at hc hrun hC
    have HC := Aside0.mk hC
    have HRUN := Aside0.mk hrun
    have HS := Aside0.mk hs
    have HH := Aside0.mk h
    have HN := Aside0.mk hn
    have HIH := Aside0.mk ih
    have HKID := Aside0.mk hkid
    have hb3 : W.cell? ⟨B3, 0, none⟩ = some (.map (some b)) := (blk_cell (blk_below h3 hs.below) 0).trans rfl
    have HP := Aside0.mk hp
    have H3 := Aside0.mk h3
    have HLK := Aside0.mk hL
    clear hC hrun hs h hn ih hkid hp h3 hL hkl ha0 ha1
    go_enter Try.func41, Try.ntmps41
    go_wp2_with (at_lookup; refine Go.Proofs.Ytcgjplolehhpjaa.H.wpList_lookup_run _ rfl _ _ 55 rfl rfl rfl HRUN.out ?_)
    clear hb3
    go_loopg [13] (Go.Proofs.Ytcgjplolehhpjaa.H.kidsN p a).length (fun g v13 wr => ∃ (i : Nat) (rest : List Go.Proofs.Ytcgjplolehhpjaa.H.It3) (v : Value) (o : List S34), i + g = (Go.Proofs.Ytcgjplolehhpjaa.H.kidsN p a).length ∧ v13 = .int .i64 i ∧ Aside0 (Go.Proofs.Ytcgjplolehhpjaa.H.rowsK (Go.Proofs.Ytcgjplolehhpjaa.H.rowK p k) a d ((Go.Proofs.Ytcgjplolehhpjaa.H.kidsN p a).drop i) = some rest) ∧ Aside0 (o ++ rest.map forest_Row_it = out ++ its.map forest_Row_it) ∧ Aside0 (forest_Row_St W0 B3 v o wr) )
    case atStart => exact ⟨0, its, v, out, by omega, rfl, HH, ⟨rfl⟩, HS⟩
    case round =>
      clear HS HH
      obtain ⟨i, rest, v, o, hi, rfl, HG, HO, HS⟩ := hrel
      by_cases hlt : i < (Go.Proofs.Ytcgjplolehhpjaa.H.kidsN p a).length
      · have hltz : (i : Int) < ((Go.Proofs.Ytcgjplolehhpjaa.H.kidsN p a).length : Int) := by omega
        have hg := HG.out
        rw [List.drop_eq_getElem_cons hlt] at hg
        have hmem : (Go.Proofs.Ytcgjplolehhpjaa.H.kidsN p a)[i] ∈ Go.Proofs.Ytcgjplolehhpjaa.H.kidsN p a := List.getElem_mem hlt
        generalize hx : (Go.Proofs.Ytcgjplolehhpjaa.H.kidsN p a)[i] = x at hg hmem
        obtain ⟨X, hX, hg⟩ := Option.bind_eq_some_iff.1 hg
        obtain ⟨Y, hY, hg⟩ := Option.bind_eq_some_iff.1 hg
        obtain rfl := Option.some.inj hg
        have hx1 := (Go.Proofs.Ytcgjplolehhpjaa.H.kidsN_mem.1 hmem).1
        have hC2 := Kd.C_below HC.out HS.out.below
        have hkr : rd (Go.Proofs.Ytcgjplolehhpjaa.H.kidsI p p.length a) (i : Int) = (x : Int) := by
          unfold rd
          rw [HKID.out, Int.toNat_natCast, List.getD_eq_getElem?_getD, List.getElem?_map, List.getElem?_eq_getElem hlt, hx]; rfl
        obtain ⟨ad, e, hc1⟩ := Kd.at_int hC2 (i : Int) (by omega) hltz
        cases e
        rw [hkr, Int.toNat_natCast] at hc1
        obtain ⟨A6, c6, rfl⟩ := Kd.R_slice HS.out.row
        have c6b : wr.cell? ⟨W0.heap.size, 0, none⟩ = some (.slice A6 o.length c6) := (blk_cell HS.out.b6 0).trans rfl
        have f6b := blk_frozen HS.out.b6 0
        have c7b : wr.cell? ⟨W0.heap.size + 1, 0, none⟩ = some (.func (.func 41) #[] #[.pointer (some ⟨B3, 0, none⟩), .pointer (some ⟨W0.heap.size, 0, none⟩), .pointer (some ⟨W0.heap.size + 1, 0, none⟩)]) := (blk_cell HS.out.b7 0).trans rfl
        have HLEN := Aside0.mk (show o.length + (X.length + Y.length + 1) ≤ 1000000 by
          have h1 := congrArg List.length HO.out
          simp only [List.length_append, List.length_map, List.length_cons] at h1
          have h2 := HN.out
          omega)
        have HX := Aside0.mk hX
        have HY := Aside0.mk hY
        have HX1 := Aside0.mk hx1
        have HLT := Aside0.mk (show W0.heap.size + 2 ≤ wr.heap.size from blk_lt HS.out.b7)
        have HBASE := Aside0.mk (fun (q : Nat) (e : some q = Value.ownBlock (.slice A6 o.length c6)) => Kd.R_base HS.out.row q e.symm)
        clear hkr hx hmem hX hY hg HG hC2 hx1
        go_wp2_with (first | (at_builtin; refine Kd.R_append k34 (w0 := wr) (W := wr) (W0.heap.size + 2) rfl _ _ 29 34 (.agg #[(.int .i64 0), (.int .i64 0), (.int .i64 0)]) 24 rfl Try.underlying29 info34 rfl (by decide) (by decide) (.slice A6 o.length c6) o ⟨(x : Int), (d : Int), a⟩ [.int .i64 (x : Int), .int .i64 (d : Int), .int .i64 a] (fun _ => True) (fun _ => False) rfl rfl (k34_mkM _ _ _ ⟨(x : Int), (d : Int), a⟩) (fun q hq => hq.elim) (fun q hq => trivial) HS.out.row (Below.refl _ _) HLT.out (by have := HLEN.out; omega) ?_; intro v1 w1 hr1 hb1 hg1 hat1; obtain ⟨A1n, c1n, rfl⟩ := Kd.R_slice hr1; have b61 := Aside0.mk (blk_grown HS.out.b6 hg1 (fun e => by have := HBASE.out _ e; omega)); have b71 := Aside0.mk (blk_grown HS.out.b7 hg1 (fun e => by have := HBASE.out _ e; omega)); have c61 : w1.cell? ⟨W0.heap.size, 0, none⟩ = some (.slice A6 o.length c6) := (blk_cell b61.out 0).trans rfl; have f61 := blk_frozen b61.out 0; have c71 : w1.cell? ⟨W0.heap.size + 1, 0, none⟩ = some (.func (.func 41) #[] #[.pointer (some ⟨B3, 0, none⟩), .pointer (some ⟨W0.heap.size, 0, none⟩), .pointer (some ⟨W0.heap.size + 1, 0, none⟩)]) := (blk_cell b71.out 0).trans rfl))
        have HBW1 := Aside0.mk (pw_below_grown (B := W0.heap.size) HS.out.below _ HS.out.below.size hg1 (fun q e => by have := HBASE.out q e.symm; omega))
        have HST := Aside0.mk (show forest_Row_St W0 B3 (.slice A1n (o.length + 1) c1n) (o ++ [⟨(x : Int), (d : Int), a⟩]) (w1.setCell ⟨W0.heap.size, 0, none⟩ (.slice A1n (o.length + 1) c1n)) from ⟨HBW1.out.setCell (p := ⟨W0.heap.size, 0, none⟩) (Nat.le_refl _) _, blk_set b61.out 0 _, blk_far b71.out (show W0.heap.size + 1 ≠ W0.heap.size by omega) _, by
          have h1 := Kd.R_mono (Kd.R_far (p := ⟨W0.heap.size, 0, none⟩) (Kd.R_bound hr1) (fun q hq e => by have h1 : W0.heap.size + 2 ≤ q := hq.2.1; have h2 : q = W0.heap.size := e; omega) (.slice A1n (o.length + 1) c1n)) (fun _ _ => trivial)
          rw [List.length_append, List.length_singleton] at h1
          exact h1⟩)
        have hcall := HIH.out (x : Int) (d + 1) X _ _ _ (by omega) (by have := HX1.out; omega) HX.out (by rw [List.length_append, List.length_singleton]; have := HLEN.out; omega) HST.out
        rw [show ((d + 1 : Nat) : Int) = (d : Int) + 1 from by omega] at hcall
        refine hcall.mono ?_
        rintro e w2 ⟨rfl, v2, hs2⟩
        have HS2 := Aside0.mk hs2
        clear hs2 hcall
        go_wp2_with (fail)
        go_roundg (gk - 1)
        case measure => omega
        case rel => exact ⟨i + 1, Y, v2, _, by omega, by go_num, HY, ⟨by have h1 := HO.out; rw [← h1, List.map_cons, List.map_append]; simp [forest_Row_it]⟩, HS2⟩
      · have hltz : ¬ (i : Int) < ((Go.Proofs.Ytcgjplolehhpjaa.H.kidsN p a).length : Int) := by omega
        have hg := HG.out
        rw [List.drop_of_length_le (by omega)] at hg
        obtain rfl := Option.some.inj (show some [] = some rest from hg)
        have ho := HO.out
        rw [List.map_nil, List.append_nil] at ho
        go_wp2_with (fail)
        go_end0
        exact ⟨rfl, v, ho ▸ HS.out⟩
set_option maxHeartbeats 8000000 in
set_option maxRecDepth 100000 in
theorem forest_Row.calls (k : Nat) (A0 : Option Addr) (c0 : Nat) (l0 : List Int) (r : List S34) (w : World) (hr0 : Kd.C (Kd.int .i64) w A0 l0.length l0) (hc0 : l0.length ≤ c0) (h : forest_Row.f k l0 = some r) :
    Calls Try.prog 21 #[.slice A0 l0.length c0] w fun e w' => ∃ v0_ : Value, e = .returned (v0_) ∧ Kd.R k34 34 w' w.heap.size (fun _ => True) v0_ r ∧ Below w.heap.size w w' := by
  have hmm := @run_makeMap Try.prog
  have hmf : ∀ (fn : Fn) (first cap : Array Value) (w : World), (Instr.makeFunc fn first cap).run Try.prog w = .ok (.func fn first cap) w := fun _ _ _ _ => rfl
  obtain ⟨q, hq, h'⟩ := Option.bind_eq_some_iff.mp h
  clear h
  have h := h'
  clear h'
  have HR0 := Aside0.mk hr0
  have HC0 := Aside0.mk hc0
  have HQ := Aside0.mk hq
  clear hr0 hc0 hq
  cases q with
  | false =>
    obtain rfl := Option.some.inj (show some [] = some r from h)
    clear h
    go_enter Try.func21, Try.ntmps21
    go_wp2_with (fail)
    refine (parent_Right.calls k A0 c0 l0 false _ HR0.out HC0.out HQ.out).mono ?_
    rintro e w1 ⟨rfl, hb1⟩
    have HB1 := Aside0.mk hb1
    clear hb1
    go_wp2_with (fail)
    go_ret
    exact ⟨_, rfl, Kd.R_nil _ _ _ _ _, HB1.out⟩
  | true =>
  rw [if_pos rfl] at h
  by_cases cn : l0.length ≤ 1000000 ∧ Go.Proofs.Ytcgjplolehhpjaa.H.okB l0 = true
  case neg => rw [if_neg cn] at h; cases h
  rw [if_pos cn] at h
  obtain ⟨its, hits, h⟩ := Option.bind_eq_some_iff.mp h
  by_cases cl : its.length ≤ 1000000
  case neg => rw [if_neg cl] at h; cases h
  rw [if_pos cl] at h
  obtain rfl := Option.some.inj h
  obtain ⟨hn, hok⟩ := cn
  have hp := Go.Proofs.Ytcgjplolehhpjaa.H.okB_iff.1 hok
  have HI := Aside0.mk hits
  have HP := Aside0.mk hp
  have HCL := Aside0.mk cl
  clear h hits hp hok cl
  obtain ⟨i0_, hi0, hz0, hz1, hz2⟩ := info_parts info3
  go_enter Try.func21, Try.ntmps21
  go_wp2_with (fail)
  refine (parent_Right.calls k A0 c0 l0 true _ HR0.out HC0.out HQ.out).mono ?_
  rintro e w1 ⟨rfl, hb1⟩
  have HB1 := Aside0.mk hb1
  clear hb1
  have HGZ := Aside0.mk (show (w1.alloc (.map #[] 0)).ownsGroups (H := Unit) Try.prog 3 (w1.heap.size + 1) 3 .i64 w1.heap.size 0 (.map []) from World.ownsGroups_made w1 Try.prog 3 3 .i64)
  have HGA := Aside0.mk (HGZ.out.kept (World.grownBy_alloc _ (.cells #[.map (some w1.heap.size)] 55 (0, 0)) none) (by simp) (fun es clock _ x _ => by cases x.val.ownBlock <;> simp))
  have HBA := Aside0.mk (below_alloc (below_alloc HB1.out (.map #[] 0)) (.cells #[.map (some w1.heap.size)] 55 (0, 0)))
  have HKA := Aside0.mk (show ((w1.alloc (.map #[] 0)).alloc (.cells #[.map (some w1.heap.size)] 55 (0, 0))).heap[w1.heap.size + 1]? = some (.cells #[.map (some w1.heap.size)] 55 (0, 0)) by
    have h_ := blk_new (w1.alloc (.map #[] 0)) (.cells #[.map (some w1.heap.size)] 55 (0, 0))
    rw [World.size_alloc] at h_
    exact h_)
  have HSZ := Aside0.mk HB1.out.size
  clear HGZ
  go_wp2_with (fail)
  generalize hb : w1.heap.size = b at HGA HBA HKA HSZ ⊢
  go_loopg [14] l0.length (fun d v14 wr => ∃ (i : Nat) (D : DataW Unit), i + d = l0.length ∧ v14 = .int .i64 i ∧ Aside0 (Below w.heap.size w wr) ∧ Aside0 (Go.Proofs.Ytcgjplolehhpjaa.H.GMap l0 i D) ∧ Aside0 (wr.ownsGroups Try.prog 3 (b + 1) 3 .i64 b i D) ∧ Aside0 (wr.heap[b + 1]? = some (.cells #[.map (some b)] 55 (0, 0))) ∧ Aside0 (b + 2 ≤ wr.heap.size))
  case atStart => exact ⟨0, .map [], by omega, rfl, HBA, ⟨Go.Proofs.Ytcgjplolehhpjaa.H.GMap_nil l0⟩, HGA, HKA, ⟨by rw [World.size_alloc, World.size_alloc, hb]; omega⟩⟩
  case round =>
    clear HGA HBA HKA hb
    obtain ⟨i, D, hi, rfl, HB, HD, HG, HK, HZ⟩ := hrel
    by_cases hlt : i < l0.length
    · have hltz : (i : Int) < (l0.length : Int) := by omega
      obtain ⟨ad, e, hx⟩ := Kd.at_int HR0.out (i : Int) (by omega) hltz
      cases e
      have hv : rd l0 (i : Int) = l0.getD i 0 := by unfold rd; rw [Int.toNat_natCast]
      rw [hv, Int.toNat_natCast] at hx
      have hxr := (HB.out.cell (World.block_lt_of_cell? w _ hx)).trans hx
      have hpx := HP.out (l0.getD i 0) (by rw [List.getD_eq_getElem?_getD, List.getElem?_eq_getElem hlt]; exact List.getElem_mem hlt)
      have hw : (Lit.int .i64 (l0.getD i 0)).wf = true := Go.WalkArith.wf_i64 ⟨by omega, by omega⟩
      have hstep : ∀ {w : World} {v' : Value}, w.ownsInts (b + 1) 3 .i64 v' (Go.Proofs.Ytcgjplolehhpjaa.H.kidsI l0 i (l0.getD i 0) ++ [(i : Int)]) → Go.Proofs.Ytcgjplolehhpjaa.H.GMap l0 (i + 1) (D.put (.int .i64 (l0.getD i 0)) (rowDatum .i64 v' (Go.Proofs.Ytcgjplolehhpjaa.H.kidsI l0 i (l0.getD i 0) ++ [(i : Int)]))) := fun ho => Go.Proofs.Ytcgjplolehhpjaa.H.GMap_step HD.out ho
      have hat0 := HD.out.at_ (l0.getD i 0)
      have HSTEP := Aside0.mk @hstep
      have HAT := Aside0.mk hat0
      clear hx hv hstep hat0 hpx
      generalize l0.getD i 0 = x at hxr hw HSTEP HAT
      have hkey : keyOf Try.prog 3 (.int .i64 x) = some (.int .i64 x) := Go.Maps.keyOf_int_mk Try.underlying3 hw
      have c3 : wr.cell? ⟨b + 1, 0, none⟩ = some (.map (some b)) := (blk_cell HK.out 0).trans rfl
      obtain ⟨es, clock, v, zs, hbm, hlk, hat, hoi, hzl, hback⟩ := Go.Proofs.Ytcgjplolehhpjaa.H.groups_at (P := Try.prog) (t := 55) Try.underlying3 Try.underlying55 (forest_Row_zero) (show wr.drew.ownsGroups Try.prog 3 (b + 1) 3 .i64 b i D from HG.out) (by unfold maxLen; omega) hw
      obtain rfl : zs = Go.Proofs.Ytcgjplolehhpjaa.H.kidsI l0 i x := Go.Proofs.Ytcgjplolehhpjaa.H.datI_row hoi (by rw [← HAT.out]; exact hat)
      have HBACK := Aside0.mk @hback
      have HOI := Aside0.mk hoi
      have HZL := Aside0.mk hzl
      clear hw hat hback hoi hzl
      go_wp2_with (fail)
      have HNK := Aside0.mk (Go.Proofs.Ytcgjplolehhpjaa.H.row_not HOI.out.1 (show wr.drew.heap[b + 1]? = _ from HK.out) (by decide))
      have HNB := Aside0.mk (Go.Proofs.Ytcgjplolehhpjaa.H.row_base HOI.out.1 (show b < b + 1 by omega))
      have HBM := Aside0.mk (show wr.drew.heap[b]? = some (.map es clock) from hbm)
      refine start_ (n := 9) (S := fun w' => w'.cell? ⟨b + 1, 0, none⟩ = some (.map (some b)) ∧ w'.heap[b]? = some (.map es clock) ∧ True ∧ True) (ds := [8]) #[false, false, false, false, false, false, false, false, false] (by kernel_rfl) rfl rfl ⟨c3, hbm, trivial, trivial⟩ (fun hHeld => ?_)
      refine pure_ (i := 1) (N := some 20) (v := ?_) (a' := ?_) #[false, true, false, false, false, false, false, false, false] rfl rfl (by kernel_rfl) (fun _ _ _ h => h) (Or.inl ⟨by rfl, ?_⟩) ?_ ?_
      rotate_left
      · intro w'
        go_simp
        with_reducible rfl
      rotate_left
      · simp only [Act.put, List.setIfInBounds_toArray, List.set_cons_zero, List.set_cons_succ, i64_w, i32_w]
        rfl
      refine pure_ (i := 3) (N := some 22) (v := ?_) (a' := ?_) #[false, true, false, true, false, false, false, false, false] rfl rfl (by kernel_rfl) (fun _ _ _ h => h) (Or.inl ⟨by rfl, ?_⟩) ?_ ?_
      rotate_left
      · intro w'
        go_simp
        with_reducible rfl
      rotate_left
      · simp only [Act.put, List.setIfInBounds_toArray, List.set_cons_zero, List.set_cons_succ, i64_w, i32_w]
        rfl
      refine pure_ (i := 5) (N := some 24) (v := ?_) (a' := ?_) #[false, true, false, true, false, true, false, false, false] rfl rfl (by kernel_rfl) (fun _ _ _ h => h) (Or.inl ⟨by rfl, ?_⟩) ?_ ?_
      rotate_left
      · intro w'
        go_simp
        with_reducible rfl
      rotate_left
      · simp only [Act.put, List.setIfInBounds_toArray, List.set_cons_zero, List.set_cons_succ, i64_w, i32_w]
        rfl
      refine take_ (i := 0) (N := some 19) (v := ?_) (a' := ?_) #[true, true, false, true, false, true, false, false, false] rfl rfl (by kernel_rfl) (fun _ _ _ h => h) (Or.inl ⟨by rfl, ?_⟩) hHeld ?_ ?_
      rotate_left
      · rintro w' ⟨s0, s1, s2, s3⟩
        go_simp
        with_reducible rfl
      rotate_left
      · simp only [Act.put, List.setIfInBounds_toArray, List.set_cons_zero, List.set_cons_succ, i64_w, i32_w]
        rfl
      refine take_ (i := 2) (N := some 21) (v := ?_) (a' := ?_) #[true, true, true, true, false, true, false, false, false] rfl rfl (by kernel_rfl) (fun _ _ _ h => h) (Or.inl ⟨by rfl, ?_⟩) hHeld ?_ ?_
      rotate_left
      · rintro w' ⟨s0, s1, s2, s3⟩
        go_simp
        with_reducible rfl
      rotate_left
      · simp only [Act.put, List.setIfInBounds_toArray, List.set_cons_zero, List.set_cons_succ, i64_w, i32_w]
        rfl
      refine take_ (i := 4) (N := some 23) (v := ?_) (a' := ?_) #[true, true, true, true, true, true, false, false, false] rfl rfl (by kernel_rfl) (fun _ _ _ h => h) (Or.inl ⟨by rfl, ?_⟩) hHeld ?_ ?_
      rotate_left
      · rintro w' ⟨s0, s1, s2, s3⟩
        go_simp
        with_reducible rfl
      rotate_left
      · simp only [Act.put, List.setIfInBounds_toArray, List.set_cons_zero, List.set_cons_succ, i64_w, i32_w]
        rfl
      refine one_ (i := 6) (N := some 25) #[true, true, true, true, true, true, true, false, false] rfl rfl (by kernel_rfl) (by decide) (fun K hK => ?_)
      refine event_step (w1 := wr.drew.alloc (.cells #[.int .i64 (i : Int)] 3 (0, 0))) (v := .slice (some ⟨wr.drew.heap.size, 0, none⟩) 1 1) ?hw ?hr ?_; (case hw => rfl); (case hr => first | (go_simp; done) | (go_simp; rfl))
      refine hK.out _ _ ⟨((blk_cell (blk_alloc (show wr.drew.heap[b + 1]? = _ from HK.out) _) 0).trans rfl), (blk_alloc HBM.out _), trivial, trivial⟩ (fun hHeld => ?_)
      clear hK K
      refine norm_ (a' := ?_) ?_ ?_
      rotate_left
      · show Act.put _ (some 25) _ = _
        simp only [Act.put, List.setIfInBounds_toArray, List.set_cons_zero, List.set_cons_succ, i64_w, i32_w]
        rfl
      refine one_ (i := 7) (N := some 26) #[true, true, true, true, true, true, true, true, false] rfl rfl (by kernel_rfl) (by decide) (fun K hK => ?_)
      refine step_append_cells (w0 := wr.drew) (W := wr.drew) (b + 1) ?hw7 (.tmp 23) (.tmp 25) 25 3 (.int .i64 0) 1 8 rfl Try.underlying25 info3 rfl (by decide) (by decide) v (Go.Proofs.Ytcgjplolehhpjaa.H.kidsI l0 i x).length _ [.int .i64 (i : Int)] rfl rfl rfl (by intro u hu; simp at hu; subst hu; rfl) HOI.out.1 (Below.refl _ _) (show b + 1 ≤ wr.heap.size by have := HZ.out; omega) (by have := HZL.out; omega) ?_; (case hw7 => rfl)
      intro v' w1 hown' hb1' hgrow hloc
      have HK1 := Aside0.mk (blk_grown (show wr.drew.heap[b + 1]? = _ from HK.out) hgrow HNK.out)
      have HM1 := Aside0.mk (blk_grown HBM.out hgrow HNB.out)
      have HOI1 := Aside0.mk (HOI.out.appended hown' (Go.WalkArith.wf_i64 ⟨by omega, by omega⟩))
      have HGROW := Aside0.mk hgrow
      have HLOC := Aside0.mk hloc
      clear hown' hb1' hgrow hloc
      refine hK.out _ _ ⟨((blk_cell HK1.out 0).trans rfl), HM1.out, trivial, trivial⟩ (fun hHeld => ?_)
      clear hK K
      refine norm_ (a' := ?_) ?_ ?_
      rotate_left
      · show Act.put _ (some 26) _ = _
        simp only [Act.put, List.setIfInBounds_toArray, List.set_cons_zero, List.set_cons_succ, i64_w, i32_w]
        rfl
      refine last_ (i := 8) (N := none) #[true, true, true, true, true, true, true, true, true] rfl rfl (by kernel_rfl) (by decide) (fun K hK => ?_)
      obtain ⟨w2, hrun2, hown2, hgrow2⟩ := HBACK.out w1 v' _ HGROW.out HOI1.out (by rw [List.length_append, List.length_singleton]; have := HZL.out; omega) HLOC.out
      have HOWN2 := Aside0.mk hown2
      have HGROW2 := Aside0.mk hgrow2
      clear hown2 hgrow2
      refine skip_ (w1 := w2) (by rfl) rfl ?_ ?_
      · (first | (go_simp; done) | (go_simp; rfl))
      refine hK.out _ _ ?_
      clear hK K
      refine done_ (by kernel_rfl) ?_
      clear hrun2
      go_wp2_with (fail)
      go_roundg (gk - 1)
      case measure => omega
      case rel => exact ⟨i + 1, _, by omega, by go_num, ⟨RowKit.Below.groups (show Below w.heap.size w wr.drew from below_drew1 HB.out) HOI.out HGROW.out HGROW2.out HB.out.size (by have := HSZ.out; omega) HSZ.out⟩, ⟨HSTEP.out HOI1.out⟩, HOWN2, ⟨blk_grown HK1.out HGROW2.out (by simp)⟩, ⟨by have h1 := HGROW.out.size; have h2 := HGROW2.out.size; have h3 := HZ.out; have h4 : wr.drew.heap.size = wr.heap.size := rfl; omega⟩⟩
    · have hltz : ¬ (i : Int) < (l0.length : Int) := by omega
      obtain rfl : i = l0.length := by omega
      have hL : ∀ (a : Int), -1 ≤ a → a < (l0.length : Int) → ∀ W, Below wr.heap.size wr W → ∃ A c, (Go.Proofs.Ytcgjplolehhpjaa.H.kidsI l0 l0.length a).length ≤ c ∧ (Instr.lookup 55 (.map (some b)) (.int .i64 a) false).run Try.prog W = .ok (.slice A (Go.Proofs.Ytcgjplolehhpjaa.H.kidsI l0 l0.length a).length c) W ∧ Kd.C (Kd.int .i64) wr A (Go.Proofs.Ytcgjplolehhpjaa.H.kidsI l0 l0.length a).length (Go.Proofs.Ytcgjplolehhpjaa.H.kidsI l0 l0.length a) := fun a ha0 ha1 W hW =>
        Go.Proofs.Ytcgjplolehhpjaa.H.kids_look (P := Try.prog) (t := 55) forest_Row_law Try.underlying3 Try.underlying55 (forest_Row_zero) HG.out HD.out a (Go.WalkArith.wf_i64 ⟨by omega, by omega⟩) W hW
      have HLL := Aside0.mk hL
      clear hL
      go_wp2_with (fail)
      have h7 : ∀ (F : Value), ((wr.alloc (.cells #[.slice none 0 0] 29 (0, 0))).alloc (.cells #[F] 56 (0, 0))).heap[wr.heap.size + 1]? = some (.cells #[F] 56 (0, 0)) := fun F => by
        have h_ := blk_new (wr.alloc (.cells #[.slice none 0 0] 29 (0, 0))) (.cells #[F] 56 (0, 0))
        rw [World.size_alloc] at h_
        exact h_
      have HST := Aside0.mk (show forest_Row_St wr (b + 1) (.slice none 0 0) [] ((wr.alloc (.cells #[.slice none 0 0] 29 (0, 0))).alloc (.cells #[.func (.func 41) #[] #[.pointer (some ⟨b + 1, 0, none⟩), .pointer (some ⟨wr.heap.size, 0, none⟩), .pointer (some ⟨wr.heap.size + 1, 0, none⟩)]] 56 (0, 0))) from
        ⟨below_alloc (below_alloc (Below.refl _ _) _) _, blk_alloc (blk_new _ _) _, h7 _, Kd.R_nil _ _ _ _ _⟩)
      have hcall := forest_Row_below wr (b + 1) b l0 HP.out hn HK.out HLL.out k (-1) 0 its _ [] _ (by omega) (by omega) HI.out (by have := HCL.out; simpa using this) HST.out
      rw [show ((0 : Nat) : Int) = 0 from rfl] at hcall
      refine hcall.mono ?_
      rintro e w5 ⟨rfl, v5, hs5⟩
      rw [List.nil_append] at hs5
      have HS5 := Aside0.mk hs5
      obtain ⟨A5, c5, rfl⟩ := Kd.R_slice hs5.row
      have c6 : w5.cell? ⟨wr.heap.size, 0, none⟩ = some (.slice A5 (its.map forest_Row_it).length c5) := (blk_cell hs5.b6 0).trans rfl
      clear hs5 hcall h7
      go_wp2_with (fail)
      go_ret
      exact ⟨.slice A5 its.length c5, rfl, Kd.R_lower (base := wr.heap.size + 2) (by have h_ := HS5.out.row; rw [List.length_map] at h_; exact h_) (show w.heap.size ≤ wr.heap.size + 2 by have := HB.out.size; omega), below_step HB.out HS5.out.below⟩


/-! ### merkhetlaw11_fixed: function 19 -/
def merkhetlaw11_fixed.f (k : Nat)  : Option (Bool) := (forest_Row.f k (([(-1), 0, 0, 1] : List Int))).bind fun t104 => (if (t104.length : Int) = 4 then (if 0 < (t104.length : Int) then (if ((rd_T34 t104 0).f0) = 0 then (if 1 < (t104.length : Int) then (if ((rd_T34 t104 1).f0) = 1 then (if 2 < (t104.length : Int) then (if ((rd_T34 t104 2).f0) = 3 then (if 3 < (t104.length : Int) then (if ((rd_T34 t104 3).f0) = 2 then (some (((rd_T34 t104 2).f1) == 2)) else (some false)) else (none)) else (some false)) else (none)) else (some false)) else (none)) else (some false)) else (none)) else (some false))
theorem merkhetlaw11_fixed.mono : ∀ k, LeO (merkhetlaw11_fixed.f k ) (merkhetlaw11_fixed.f (k + 1) ) := by
  intro  k
  unfold merkhetlaw11_fixed.f
  repeat' first
      | (with_reducible exact forest_Row.mono _ _)
      | (with_reducible exact LeO.refl _)
      | (with_reducible exact LeO.none _)
      | (with_reducible refine LeO.ite ?_ ?_)
      | (with_reducible refine LeO.bind ?_ (fun _ => ?_))
      | exact forest_Row.mono _ _
      | exact LeO.none _
      | refine LeO.ite ?_ ?_
      | refine LeO.bind ?_ (fun _ => ?_)
set_option maxHeartbeats 8000000 in
set_option maxRecDepth 100000 in
theorem merkhetlaw11_fixed.calls (k : Nat)  (r : Bool) (w : World) (h : merkhetlaw11_fixed.f k  = some r) :
    Calls Try.prog 19 #[] w fun e w' => e = .returned (.bool r) ∧ Below w.heap.size w w' := by
  have HB := Aside0.mk (Below.refl w.heap.size w)
  have H : ((forest_Row.f k (([(-1), 0, 0, 1] : List Int))).bind fun t104 => (if (t104.length : Int) = 4 then (if 0 < (t104.length : Int) then (if ((rd_T34 t104 0).f0) = 0 then (if 1 < (t104.length : Int) then (if ((rd_T34 t104 1).f0) = 1 then (if 2 < (t104.length : Int) then (if ((rd_T34 t104 2).f0) = 3 then (if 3 < (t104.length : Int) then (if ((rd_T34 t104 3).f0) = 2 then (some (((rd_T34 t104 2).f1) == 2)) else (some false)) else (none)) else (some false)) else (none)) else (some false)) else (none)) else (some false)) else (none)) else (some false))) = some r := h
  clear h
  obtain ⟨y101, hy101⟩ : ∃ y_ : List Int, y_ = (([(-1), 0, 0, 1] : List Int)) := ⟨_, rfl⟩
  replace H : ((forest_Row.f k y101).bind fun t104 => (if (t104.length : Int) = 4 then (if 0 < (t104.length : Int) then (if ((rd_T34 t104 0).f0) = 0 then (if 1 < (t104.length : Int) then (if ((rd_T34 t104 1).f0) = 1 then (if 2 < (t104.length : Int) then (if ((rd_T34 t104 2).f0) = 3 then (if 3 < (t104.length : Int) then (if ((rd_T34 t104 3).f0) = 2 then (some (((rd_T34 t104 2).f1) == 2)) else (some false)) else (none)) else (some false)) else (none)) else (some false)) else (none)) else (some false)) else (none)) else (some false))) = some r := by first | (rw [hy101]; with_reducible exact H) | (have H2_ := (Option.bind_some _ _).symm.trans H; rw [hy101]; with_reducible exact H2_) | (have H2_ := (Option.bind_some _ _).symm.trans H; with_reducible exact H2_) | with_reducible exact H | (rw [hy101]; exact H) | exact H
  have Ny101 := Aside0.mk hy101
  clear hy101
  replace H := Option.bind_eq_some_iff.mp H
  obtain ⟨t104, A10, H⟩ := H
  replace H : (if (t104.length : Int) = 4 then (if 0 < (t104.length : Int) then (if ((rd_T34 t104 0).f0) = 0 then (if 1 < (t104.length : Int) then (if ((rd_T34 t104 1).f0) = 1 then (if 2 < (t104.length : Int) then (if ((rd_T34 t104 2).f0) = 3 then (if 3 < (t104.length : Int) then (if ((rd_T34 t104 3).f0) = 2 then (some (((rd_T34 t104 2).f1) == 2)) else (some false)) else (none)) else (some false)) else (none)) else (some false)) else (none)) else (some false)) else (none)) else (some false)) = some r := H
  have A1 := Aside0.mk A10
  clear A10
  by_cases c2 : (t104.length : Int) = 4
  · rw [if_pos c2] at H
    have c2b0 : ((t104.length : Int) == 4) = true := beq_iff_eq.mpr c2
    have c2b1 : ((t104.length : Int) != 4) = false := bne_eq_false_iff_eq.mpr c2
    clear c2
    by_cases c3 : 0 < (t104.length : Int)
    · rw [if_pos c3] at H
      have c3b0 : decide (0 < (t104.length : Int)) = true := decide_eq_true c3
      have c3b1 : decide (0 < t104.length) = true := decide_eq_true (by omega)
      clear c3
      by_cases c4 : ((rd_T34 t104 0).f0) = 0
      · rw [if_pos c4] at H
        have c4b0 : (((rd_T34 t104 0).f0) == 0) = true := beq_iff_eq.mpr c4
        have c4b1 : (((rd_T34 t104 0).f0) != 0) = false := bne_eq_false_iff_eq.mpr c4
        clear c4
        by_cases c5 : 1 < (t104.length : Int)
        · rw [if_pos c5] at H
          have c5b0 : decide (1 < (t104.length : Int)) = true := decide_eq_true c5
          have c5b1 : decide (1 < t104.length) = true := decide_eq_true (by omega)
          clear c5
          by_cases c6 : ((rd_T34 t104 1).f0) = 1
          · rw [if_pos c6] at H
            have c6b0 : (((rd_T34 t104 1).f0) == 1) = true := beq_iff_eq.mpr c6
            have c6b1 : (((rd_T34 t104 1).f0) != 1) = false := bne_eq_false_iff_eq.mpr c6
            clear c6
            by_cases c7 : 2 < (t104.length : Int)
            · rw [if_pos c7] at H
              have c7b0 : decide (2 < (t104.length : Int)) = true := decide_eq_true c7
              have c7b1 : decide (2 < t104.length) = true := decide_eq_true (by omega)
              clear c7
              by_cases c8 : ((rd_T34 t104 2).f0) = 3
              · rw [if_pos c8] at H
                have c8b0 : (((rd_T34 t104 2).f0) == 3) = true := beq_iff_eq.mpr c8
                have c8b1 : (((rd_T34 t104 2).f0) != 3) = false := bne_eq_false_iff_eq.mpr c8
                clear c8
                by_cases c9 : 3 < (t104.length : Int)
                · rw [if_pos c9] at H
                  have c9b0 : decide (3 < (t104.length : Int)) = true := decide_eq_true c9
                  have c9b1 : decide (3 < t104.length) = true := decide_eq_true (by omega)
                  clear c9
                  by_cases c10 : ((rd_T34 t104 3).f0) = 2
                  · rw [if_pos c10] at H
                    have c10b0 : (((rd_T34 t104 3).f0) == 2) = true := beq_iff_eq.mpr c10
                    have c10b1 : (((rd_T34 t104 3).f0) != 2) = false := bne_eq_false_iff_eq.mpr c10
                    clear c10
                    obtain rfl := Option.some.inj H
                    go_enter Try.func19, Try.ntmps19
                    go_wp2_with (first | ((with_reducible refine gate_dst (N := 2) rfl ?_); refine Kd.R_lit (Kd.int .i64) _ 3 ?hg (N := 2) ?hd (xs := ([(-1), 0, 0, 1] : List Int)) (inner := [.int .i64 (-1), .int .i64 0, .int .i64 0, .int .i64 1]) (ok := fun _ => True) (okp := fun _ => True) ?hr ?hp (fun _ hk => hk) trivial (Below.refl _ _) (Nat.le_refl _) (by simp) ?_; (case hd => rfl); (case hg => rfl); (case hr => first | (go_simp; done) | (go_simp; rfl)); (case hp => exact (Reps.one (show Kd.M (Kd.int .i64) _ _ _ (-1) [.int .i64 (-1)] from rfl) (Reps.one (show Kd.M (Kd.int .i64) _ _ _ 0 [.int .i64 0] from rfl) (Reps.one (show Kd.M (Kd.int .i64) _ _ _ 0 [.int .i64 0] from rfl) (Reps.one (show Kd.M (Kd.int .i64) _ _ _ 1 [.int .i64 1] from rfl) (Reps.none _ _)))))); intro v102 w11 ho12 hb hg_ hnew_; clear hg_ hnew_; (first | rw [← Ny101.out] at ho12 | (simp only [Int.reduceToNat] at ho12; rw [← Ny101.out] at ho12)); have n0_ := Aside0.mk (Kd.R_lower ho12 (below_size (by repeat (first | (with_reducible first | exact HB.out | apply below_alloc | apply pw_below_drewN | apply below_drew1) | exact HB.out)))); have n1_ := Aside0.mk (below_step (by repeat (first | (with_reducible first | exact HB.out | apply below_alloc | apply pw_below_drewN | apply below_drew1) | exact HB.out)) hb); clear HB; have HO103 := n0_; have HB := n1_; clear n0_ n1_; clear hb ho12; obtain ⟨Ao13, co13, eo13⟩ := Kd.R_slice HO103.out; subst eo13) | ((with_reducible refine gate_callee (f := 21) rfl ?_); refine goesL_ (some 3) rfl rfl Try.func21 (by kernel_rfl) rfl #[.slice Ao13 y101.length co13] rfl (by (try simp only [List.map_toArray, List.map_cons, List.map_nil]); first | done | rfl | (simp only [List.length_drop, List.length_take]; rfl)) ?_; (with_reducible refine (forest_Row.calls k _ _ y101 t104 _ ?side1 ?side2 A1.out).mono ?_); (case side1 => repeat (first | exact (Kd.R_reads' HO103.out).2.2 | (with_reducible refine Kd.C_alloc ?_ _) | (with_reducible refine Kd.C_drewN ?_ _) | (with_reducible refine Kd.C_drew ?_))); (case side2 => exact (Kd.R_reads' HO103.out).2.1); rintro e w14 ⟨v105, rfl, ho0, hb⟩; refine ⟨_, rfl, ?_⟩; have n0_ := Aside0.mk (Kd.R_below (by (with_reducible repeat (first | apply Kd.R_alloc | apply Kd.R_drewN | apply Kd.R_drew)); exact HO103.out) hb); have n1_ := Aside0.mk (Kd.R_lower ho0 (below_size (by repeat (first | (with_reducible first | exact HB.out | apply below_alloc | apply pw_below_drewN | apply below_drew1) | exact HB.out)))); have n2_ := Aside0.mk (below_step (by repeat (first | (with_reducible first | exact HB.out | apply below_alloc | apply pw_below_drewN | apply below_drew1) | exact HB.out)) hb); clear HO103; clear HB; have HO103 := n0_; have HO106 := n1_; have HB := n2_; clear n0_ n1_ n2_; (try clear hb); (try clear hb2); (try clear hk); (try clear hi); (try clear ho0); obtain ⟨Ao15, co15, eo15⟩ := Kd.R_slice HO106.out; subst eo15; have p107 : 0 ≤ (0 : Int) := (by omega); have q107 : 0 < (t104.length : Int) := of_decide_eq_true (by first | (with_reducible assumption) | assumption); obtain ⟨ad107, e107, hx107_0, hx107_1, hx107_2⟩ := at_T34 (Kd.R_reads' HO106.out).2.2 0 p107 q107; cases e107; have qi107 : (0 < t104.length) = True := eq_true (by omega); (try rw [show ((0 : Int)).toNat = 0 from rfl] at hx107_0); (try rw [show 0 * 3 = 0 from rfl] at hx107_0); (try rw [Addr.add_zero'] at hx107_0); (try rw [show ((0 : Int)).toNat = 0 from rfl] at hx107_1); (try rw [show 0 * 3 = 0 from rfl] at hx107_1); (try rw [Addr.add_zero'] at hx107_1); (try rw [show ((0 : Int)).toNat = 0 from rfl] at hx107_2); (try rw [show 0 * 3 = 0 from rfl] at hx107_2); (try rw [Addr.add_zero'] at hx107_2); replace p107 := eq_true p107; replace q107 := eq_true q107; have p108 : 0 ≤ (1 : Int) := (by omega); have q108 : 1 < (t104.length : Int) := of_decide_eq_true (by first | (with_reducible assumption) | assumption); obtain ⟨ad108, e108, hx108_0, hx108_1, hx108_2⟩ := at_T34 (Kd.R_reads' HO106.out).2.2 1 p108 q108; obtain rfl : ad107 = ad108 := (by injection e108); (try simp only [show (1 : Int).toNat = 1 from rfl, Nat.reduceMul, Nat.reduceEqDiff, Go.Addr.add, ↓reduceIte] at hx108_0); (try simp only [show (1 : Int).toNat = 1 from rfl, Nat.reduceMul, Nat.reduceEqDiff, Go.Addr.add, ↓reduceIte] at hx108_1); (try simp only [show (1 : Int).toNat = 1 from rfl, Nat.reduceMul, Nat.reduceEqDiff, Go.Addr.add, ↓reduceIte] at hx108_2); have qi108 : (1 < t104.length) = True := eq_true (by omega); (try rw [show ((1 : Int)).toNat = 1 from rfl] at hx108_0); (try rw [show 1 * 3 = 3 from rfl] at hx108_0); (try rw [show ((1 : Int)).toNat = 1 from rfl] at hx108_1); (try rw [show 1 * 3 = 3 from rfl] at hx108_1); (try rw [show ((1 : Int)).toNat = 1 from rfl] at hx108_2); (try rw [show 1 * 3 = 3 from rfl] at hx108_2); replace p108 := eq_true p108; replace q108 := eq_true q108; have p109 : 0 ≤ (2 : Int) := (by omega); have q109 : 2 < (t104.length : Int) := of_decide_eq_true (by first | (with_reducible assumption) | assumption); obtain ⟨ad109, e109, hx109_0, hx109_1, hx109_2⟩ := at_T34 (Kd.R_reads' HO106.out).2.2 2 p109 q109; obtain rfl : ad107 = ad109 := (by injection e109); (try simp only [show (2 : Int).toNat = 2 from rfl, Nat.reduceMul, Nat.reduceEqDiff, Go.Addr.add, ↓reduceIte] at hx109_0); (try simp only [show (2 : Int).toNat = 2 from rfl, Nat.reduceMul, Nat.reduceEqDiff, Go.Addr.add, ↓reduceIte] at hx109_1); (try simp only [show (2 : Int).toNat = 2 from rfl, Nat.reduceMul, Nat.reduceEqDiff, Go.Addr.add, ↓reduceIte] at hx109_2); have qi109 : (2 < t104.length) = True := eq_true (by omega); (try rw [show ((2 : Int)).toNat = 2 from rfl] at hx109_0); (try rw [show 2 * 3 = 6 from rfl] at hx109_0); (try rw [show ((2 : Int)).toNat = 2 from rfl] at hx109_1); (try rw [show 2 * 3 = 6 from rfl] at hx109_1); (try rw [show ((2 : Int)).toNat = 2 from rfl] at hx109_2); (try rw [show 2 * 3 = 6 from rfl] at hx109_2); replace p109 := eq_true p109; replace q109 := eq_true q109; have p110 : 0 ≤ (3 : Int) := (by omega); have q110 : 3 < (t104.length : Int) := of_decide_eq_true (by first | (with_reducible assumption) | assumption); obtain ⟨ad110, e110, hx110_0, hx110_1, hx110_2⟩ := at_T34 (Kd.R_reads' HO106.out).2.2 3 p110 q110; obtain rfl : ad107 = ad110 := (by injection e110); (try simp only [show (3 : Int).toNat = 3 from rfl, Nat.reduceMul, Nat.reduceEqDiff, Go.Addr.add, ↓reduceIte] at hx110_0); (try simp only [show (3 : Int).toNat = 3 from rfl, Nat.reduceMul, Nat.reduceEqDiff, Go.Addr.add, ↓reduceIte] at hx110_1); (try simp only [show (3 : Int).toNat = 3 from rfl, Nat.reduceMul, Nat.reduceEqDiff, Go.Addr.add, ↓reduceIte] at hx110_2); have qi110 : (3 < t104.length) = True := eq_true (by omega); (try rw [show ((3 : Int)).toNat = 3 from rfl] at hx110_0); (try rw [show 3 * 3 = 9 from rfl] at hx110_0); (try rw [show ((3 : Int)).toNat = 3 from rfl] at hx110_1); (try rw [show 3 * 3 = 9 from rfl] at hx110_1); (try rw [show ((3 : Int)).toNat = 3 from rfl] at hx110_2); (try rw [show 3 * 3 = 9 from rfl] at hx110_2); replace p110 := eq_true p110; replace q110 := eq_true q110; have p111 : 0 ≤ (2 : Int) := (by omega); have q111 : 2 < (t104.length : Int) := of_decide_eq_true (by first | (with_reducible assumption) | assumption); obtain ⟨ad111, e111, hx111_0, hx111_1, hx111_2⟩ := at_T34 (Kd.R_reads' HO106.out).2.2 2 p111 q111; obtain rfl : ad107 = ad111 := (by injection e111); (try simp only [show (2 : Int).toNat = 2 from rfl, Nat.reduceMul, Nat.reduceEqDiff, Go.Addr.add, ↓reduceIte] at hx111_0); (try simp only [show (2 : Int).toNat = 2 from rfl, Nat.reduceMul, Nat.reduceEqDiff, Go.Addr.add, ↓reduceIte] at hx111_1); (try simp only [show (2 : Int).toNat = 2 from rfl, Nat.reduceMul, Nat.reduceEqDiff, Go.Addr.add, ↓reduceIte] at hx111_2); have qi111 : (2 < t104.length) = True := eq_true (by omega); (try rw [show ((2 : Int)).toNat = 2 from rfl] at hx111_0); (try rw [show 2 * 3 = 6 from rfl] at hx111_0); (try rw [show ((2 : Int)).toNat = 2 from rfl] at hx111_1); (try rw [show 2 * 3 = 6 from rfl] at hx111_1); (try rw [show ((2 : Int)).toNat = 2 from rfl] at hx111_2); (try rw [show 2 * 3 = 6 from rfl] at hx111_2); replace p111 := eq_true p111; replace q111 := eq_true q111))
                    go_ret
                    exact ⟨by first | rfl | (simp [errW_none, errW_some] <;> rfl) | (simp [*, errW_none, errW_some] <;> rfl), by repeat (first | (with_reducible first | exact HB.out | apply below_alloc | apply pw_below_drewN | apply below_drew1) | exact HB.out)⟩
                  · rw [if_neg c10] at H
                    have c10b0 : (((rd_T34 t104 3).f0) == 2) = false := beq_eq_false_iff_ne.mpr c10
                    have c10b1 : (((rd_T34 t104 3).f0) != 2) = true := bne_iff_ne.mpr c10
                    obtain rfl := Option.some.inj H
                    go_enter Try.func19, Try.ntmps19
                    go_wp2_with (first | ((with_reducible refine gate_dst (N := 2) rfl ?_); refine Kd.R_lit (Kd.int .i64) _ 3 ?hg (N := 2) ?hd (xs := ([(-1), 0, 0, 1] : List Int)) (inner := [.int .i64 (-1), .int .i64 0, .int .i64 0, .int .i64 1]) (ok := fun _ => True) (okp := fun _ => True) ?hr ?hp (fun _ hk => hk) trivial (Below.refl _ _) (Nat.le_refl _) (by simp) ?_; (case hd => rfl); (case hg => rfl); (case hr => first | (go_simp; done) | (go_simp; rfl)); (case hp => exact (Reps.one (show Kd.M (Kd.int .i64) _ _ _ (-1) [.int .i64 (-1)] from rfl) (Reps.one (show Kd.M (Kd.int .i64) _ _ _ 0 [.int .i64 0] from rfl) (Reps.one (show Kd.M (Kd.int .i64) _ _ _ 0 [.int .i64 0] from rfl) (Reps.one (show Kd.M (Kd.int .i64) _ _ _ 1 [.int .i64 1] from rfl) (Reps.none _ _)))))); intro v102 w16 ho17 hb hg_ hnew_; clear hg_ hnew_; (first | rw [← Ny101.out] at ho17 | (simp only [Int.reduceToNat] at ho17; rw [← Ny101.out] at ho17)); have n0_ := Aside0.mk (Kd.R_lower ho17 (below_size (by repeat (first | (with_reducible first | exact HB.out | apply below_alloc | apply pw_below_drewN | apply below_drew1) | exact HB.out)))); have n1_ := Aside0.mk (below_step (by repeat (first | (with_reducible first | exact HB.out | apply below_alloc | apply pw_below_drewN | apply below_drew1) | exact HB.out)) hb); clear HB; have HO103 := n0_; have HB := n1_; clear n0_ n1_; clear hb ho17; obtain ⟨Ao18, co18, eo18⟩ := Kd.R_slice HO103.out; subst eo18) | ((with_reducible refine gate_callee (f := 21) rfl ?_); refine goesL_ (some 3) rfl rfl Try.func21 (by kernel_rfl) rfl #[.slice Ao18 y101.length co18] rfl (by (try simp only [List.map_toArray, List.map_cons, List.map_nil]); first | done | rfl | (simp only [List.length_drop, List.length_take]; rfl)) ?_; (with_reducible refine (forest_Row.calls k _ _ y101 t104 _ ?side1 ?side2 A1.out).mono ?_); (case side1 => repeat (first | exact (Kd.R_reads' HO103.out).2.2 | (with_reducible refine Kd.C_alloc ?_ _) | (with_reducible refine Kd.C_drewN ?_ _) | (with_reducible refine Kd.C_drew ?_))); (case side2 => exact (Kd.R_reads' HO103.out).2.1); rintro e w19 ⟨v105, rfl, ho0, hb⟩; refine ⟨_, rfl, ?_⟩; have n0_ := Aside0.mk (Kd.R_below (by (with_reducible repeat (first | apply Kd.R_alloc | apply Kd.R_drewN | apply Kd.R_drew)); exact HO103.out) hb); have n1_ := Aside0.mk (Kd.R_lower ho0 (below_size (by repeat (first | (with_reducible first | exact HB.out | apply below_alloc | apply pw_below_drewN | apply below_drew1) | exact HB.out)))); have n2_ := Aside0.mk (below_step (by repeat (first | (with_reducible first | exact HB.out | apply below_alloc | apply pw_below_drewN | apply below_drew1) | exact HB.out)) hb); clear HO103; clear HB; have HO103 := n0_; have HO106 := n1_; have HB := n2_; clear n0_ n1_ n2_; (try clear hb); (try clear hb2); (try clear hk); (try clear hi); (try clear ho0); obtain ⟨Ao20, co20, eo20⟩ := Kd.R_slice HO106.out; subst eo20; have p107 : 0 ≤ (0 : Int) := (by omega); have q107 : 0 < (t104.length : Int) := of_decide_eq_true (by first | (with_reducible assumption) | assumption); obtain ⟨ad107, e107, hx107_0, hx107_1, hx107_2⟩ := at_T34 (Kd.R_reads' HO106.out).2.2 0 p107 q107; cases e107; have qi107 : (0 < t104.length) = True := eq_true (by omega); (try rw [show ((0 : Int)).toNat = 0 from rfl] at hx107_0); (try rw [show 0 * 3 = 0 from rfl] at hx107_0); (try rw [Addr.add_zero'] at hx107_0); (try rw [show ((0 : Int)).toNat = 0 from rfl] at hx107_1); (try rw [show 0 * 3 = 0 from rfl] at hx107_1); (try rw [Addr.add_zero'] at hx107_1); (try rw [show ((0 : Int)).toNat = 0 from rfl] at hx107_2); (try rw [show 0 * 3 = 0 from rfl] at hx107_2); (try rw [Addr.add_zero'] at hx107_2); replace p107 := eq_true p107; replace q107 := eq_true q107; have p108 : 0 ≤ (1 : Int) := (by omega); have q108 : 1 < (t104.length : Int) := of_decide_eq_true (by first | (with_reducible assumption) | assumption); obtain ⟨ad108, e108, hx108_0, hx108_1, hx108_2⟩ := at_T34 (Kd.R_reads' HO106.out).2.2 1 p108 q108; obtain rfl : ad107 = ad108 := (by injection e108); (try simp only [show (1 : Int).toNat = 1 from rfl, Nat.reduceMul, Nat.reduceEqDiff, Go.Addr.add, ↓reduceIte] at hx108_0); (try simp only [show (1 : Int).toNat = 1 from rfl, Nat.reduceMul, Nat.reduceEqDiff, Go.Addr.add, ↓reduceIte] at hx108_1); (try simp only [show (1 : Int).toNat = 1 from rfl, Nat.reduceMul, Nat.reduceEqDiff, Go.Addr.add, ↓reduceIte] at hx108_2); have qi108 : (1 < t104.length) = True := eq_true (by omega); (try rw [show ((1 : Int)).toNat = 1 from rfl] at hx108_0); (try rw [show 1 * 3 = 3 from rfl] at hx108_0); (try rw [show ((1 : Int)).toNat = 1 from rfl] at hx108_1); (try rw [show 1 * 3 = 3 from rfl] at hx108_1); (try rw [show ((1 : Int)).toNat = 1 from rfl] at hx108_2); (try rw [show 1 * 3 = 3 from rfl] at hx108_2); replace p108 := eq_true p108; replace q108 := eq_true q108; have p109 : 0 ≤ (2 : Int) := (by omega); have q109 : 2 < (t104.length : Int) := of_decide_eq_true (by first | (with_reducible assumption) | assumption); obtain ⟨ad109, e109, hx109_0, hx109_1, hx109_2⟩ := at_T34 (Kd.R_reads' HO106.out).2.2 2 p109 q109; obtain rfl : ad107 = ad109 := (by injection e109); (try simp only [show (2 : Int).toNat = 2 from rfl, Nat.reduceMul, Nat.reduceEqDiff, Go.Addr.add, ↓reduceIte] at hx109_0); (try simp only [show (2 : Int).toNat = 2 from rfl, Nat.reduceMul, Nat.reduceEqDiff, Go.Addr.add, ↓reduceIte] at hx109_1); (try simp only [show (2 : Int).toNat = 2 from rfl, Nat.reduceMul, Nat.reduceEqDiff, Go.Addr.add, ↓reduceIte] at hx109_2); have qi109 : (2 < t104.length) = True := eq_true (by omega); (try rw [show ((2 : Int)).toNat = 2 from rfl] at hx109_0); (try rw [show 2 * 3 = 6 from rfl] at hx109_0); (try rw [show ((2 : Int)).toNat = 2 from rfl] at hx109_1); (try rw [show 2 * 3 = 6 from rfl] at hx109_1); (try rw [show ((2 : Int)).toNat = 2 from rfl] at hx109_2); (try rw [show 2 * 3 = 6 from rfl] at hx109_2); replace p109 := eq_true p109; replace q109 := eq_true q109; have p110 : 0 ≤ (3 : Int) := (by omega); have q110 : 3 < (t104.length : Int) := of_decide_eq_true (by first | (with_reducible assumption) | assumption); obtain ⟨ad110, e110, hx110_0, hx110_1, hx110_2⟩ := at_T34 (Kd.R_reads' HO106.out).2.2 3 p110 q110; obtain rfl : ad107 = ad110 := (by injection e110); (try simp only [show (3 : Int).toNat = 3 from rfl, Nat.reduceMul, Nat.reduceEqDiff, Go.Addr.add, ↓reduceIte] at hx110_0); (try simp only [show (3 : Int).toNat = 3 from rfl, Nat.reduceMul, Nat.reduceEqDiff, Go.Addr.add, ↓reduceIte] at hx110_1); (try simp only [show (3 : Int).toNat = 3 from rfl, Nat.reduceMul, Nat.reduceEqDiff, Go.Addr.add, ↓reduceIte] at hx110_2); have qi110 : (3 < t104.length) = True := eq_true (by omega); (try rw [show ((3 : Int)).toNat = 3 from rfl] at hx110_0); (try rw [show 3 * 3 = 9 from rfl] at hx110_0); (try rw [show ((3 : Int)).toNat = 3 from rfl] at hx110_1); (try rw [show 3 * 3 = 9 from rfl] at hx110_1); (try rw [show ((3 : Int)).toNat = 3 from rfl] at hx110_2); (try rw [show 3 * 3 = 9 from rfl] at hx110_2); replace p110 := eq_true p110; replace q110 := eq_true q110))
                    go_ret
                    exact ⟨by first | rfl | (simp [errW_none, errW_some] <;> rfl) | (simp [*, errW_none, errW_some] <;> rfl), by repeat (first | (with_reducible first | exact HB.out | apply below_alloc | apply pw_below_drewN | apply below_drew1) | exact HB.out)⟩
                · rw [if_neg c9] at H
                  exact absurd H (by simp)
              · rw [if_neg c8] at H
                have c8b0 : (((rd_T34 t104 2).f0) == 3) = false := beq_eq_false_iff_ne.mpr c8
                have c8b1 : (((rd_T34 t104 2).f0) != 3) = true := bne_iff_ne.mpr c8
                obtain rfl := Option.some.inj H
                go_enter Try.func19, Try.ntmps19
                go_wp2_with (first | ((with_reducible refine gate_dst (N := 2) rfl ?_); refine Kd.R_lit (Kd.int .i64) _ 3 ?hg (N := 2) ?hd (xs := ([(-1), 0, 0, 1] : List Int)) (inner := [.int .i64 (-1), .int .i64 0, .int .i64 0, .int .i64 1]) (ok := fun _ => True) (okp := fun _ => True) ?hr ?hp (fun _ hk => hk) trivial (Below.refl _ _) (Nat.le_refl _) (by simp) ?_; (case hd => rfl); (case hg => rfl); (case hr => first | (go_simp; done) | (go_simp; rfl)); (case hp => exact (Reps.one (show Kd.M (Kd.int .i64) _ _ _ (-1) [.int .i64 (-1)] from rfl) (Reps.one (show Kd.M (Kd.int .i64) _ _ _ 0 [.int .i64 0] from rfl) (Reps.one (show Kd.M (Kd.int .i64) _ _ _ 0 [.int .i64 0] from rfl) (Reps.one (show Kd.M (Kd.int .i64) _ _ _ 1 [.int .i64 1] from rfl) (Reps.none _ _)))))); intro v102 w21 ho22 hb hg_ hnew_; clear hg_ hnew_; (first | rw [← Ny101.out] at ho22 | (simp only [Int.reduceToNat] at ho22; rw [← Ny101.out] at ho22)); have n0_ := Aside0.mk (Kd.R_lower ho22 (below_size (by repeat (first | (with_reducible first | exact HB.out | apply below_alloc | apply pw_below_drewN | apply below_drew1) | exact HB.out)))); have n1_ := Aside0.mk (below_step (by repeat (first | (with_reducible first | exact HB.out | apply below_alloc | apply pw_below_drewN | apply below_drew1) | exact HB.out)) hb); clear HB; have HO103 := n0_; have HB := n1_; clear n0_ n1_; clear hb ho22; obtain ⟨Ao23, co23, eo23⟩ := Kd.R_slice HO103.out; subst eo23) | ((with_reducible refine gate_callee (f := 21) rfl ?_); refine goesL_ (some 3) rfl rfl Try.func21 (by kernel_rfl) rfl #[.slice Ao23 y101.length co23] rfl (by (try simp only [List.map_toArray, List.map_cons, List.map_nil]); first | done | rfl | (simp only [List.length_drop, List.length_take]; rfl)) ?_; (with_reducible refine (forest_Row.calls k _ _ y101 t104 _ ?side1 ?side2 A1.out).mono ?_); (case side1 => repeat (first | exact (Kd.R_reads' HO103.out).2.2 | (with_reducible refine Kd.C_alloc ?_ _) | (with_reducible refine Kd.C_drewN ?_ _) | (with_reducible refine Kd.C_drew ?_))); (case side2 => exact (Kd.R_reads' HO103.out).2.1); rintro e w24 ⟨v105, rfl, ho0, hb⟩; refine ⟨_, rfl, ?_⟩; have n0_ := Aside0.mk (Kd.R_below (by (with_reducible repeat (first | apply Kd.R_alloc | apply Kd.R_drewN | apply Kd.R_drew)); exact HO103.out) hb); have n1_ := Aside0.mk (Kd.R_lower ho0 (below_size (by repeat (first | (with_reducible first | exact HB.out | apply below_alloc | apply pw_below_drewN | apply below_drew1) | exact HB.out)))); have n2_ := Aside0.mk (below_step (by repeat (first | (with_reducible first | exact HB.out | apply below_alloc | apply pw_below_drewN | apply below_drew1) | exact HB.out)) hb); clear HO103; clear HB; have HO103 := n0_; have HO106 := n1_; have HB := n2_; clear n0_ n1_ n2_; (try clear hb); (try clear hb2); (try clear hk); (try clear hi); (try clear ho0); obtain ⟨Ao25, co25, eo25⟩ := Kd.R_slice HO106.out; subst eo25; have p107 : 0 ≤ (0 : Int) := (by omega); have q107 : 0 < (t104.length : Int) := of_decide_eq_true (by first | (with_reducible assumption) | assumption); obtain ⟨ad107, e107, hx107_0, hx107_1, hx107_2⟩ := at_T34 (Kd.R_reads' HO106.out).2.2 0 p107 q107; cases e107; have qi107 : (0 < t104.length) = True := eq_true (by omega); (try rw [show ((0 : Int)).toNat = 0 from rfl] at hx107_0); (try rw [show 0 * 3 = 0 from rfl] at hx107_0); (try rw [Addr.add_zero'] at hx107_0); (try rw [show ((0 : Int)).toNat = 0 from rfl] at hx107_1); (try rw [show 0 * 3 = 0 from rfl] at hx107_1); (try rw [Addr.add_zero'] at hx107_1); (try rw [show ((0 : Int)).toNat = 0 from rfl] at hx107_2); (try rw [show 0 * 3 = 0 from rfl] at hx107_2); (try rw [Addr.add_zero'] at hx107_2); replace p107 := eq_true p107; replace q107 := eq_true q107; have p108 : 0 ≤ (1 : Int) := (by omega); have q108 : 1 < (t104.length : Int) := of_decide_eq_true (by first | (with_reducible assumption) | assumption); obtain ⟨ad108, e108, hx108_0, hx108_1, hx108_2⟩ := at_T34 (Kd.R_reads' HO106.out).2.2 1 p108 q108; obtain rfl : ad107 = ad108 := (by injection e108); (try simp only [show (1 : Int).toNat = 1 from rfl, Nat.reduceMul, Nat.reduceEqDiff, Go.Addr.add, ↓reduceIte] at hx108_0); (try simp only [show (1 : Int).toNat = 1 from rfl, Nat.reduceMul, Nat.reduceEqDiff, Go.Addr.add, ↓reduceIte] at hx108_1); (try simp only [show (1 : Int).toNat = 1 from rfl, Nat.reduceMul, Nat.reduceEqDiff, Go.Addr.add, ↓reduceIte] at hx108_2); have qi108 : (1 < t104.length) = True := eq_true (by omega); (try rw [show ((1 : Int)).toNat = 1 from rfl] at hx108_0); (try rw [show 1 * 3 = 3 from rfl] at hx108_0); (try rw [show ((1 : Int)).toNat = 1 from rfl] at hx108_1); (try rw [show 1 * 3 = 3 from rfl] at hx108_1); (try rw [show ((1 : Int)).toNat = 1 from rfl] at hx108_2); (try rw [show 1 * 3 = 3 from rfl] at hx108_2); replace p108 := eq_true p108; replace q108 := eq_true q108; have p109 : 0 ≤ (2 : Int) := (by omega); have q109 : 2 < (t104.length : Int) := of_decide_eq_true (by first | (with_reducible assumption) | assumption); obtain ⟨ad109, e109, hx109_0, hx109_1, hx109_2⟩ := at_T34 (Kd.R_reads' HO106.out).2.2 2 p109 q109; obtain rfl : ad107 = ad109 := (by injection e109); (try simp only [show (2 : Int).toNat = 2 from rfl, Nat.reduceMul, Nat.reduceEqDiff, Go.Addr.add, ↓reduceIte] at hx109_0); (try simp only [show (2 : Int).toNat = 2 from rfl, Nat.reduceMul, Nat.reduceEqDiff, Go.Addr.add, ↓reduceIte] at hx109_1); (try simp only [show (2 : Int).toNat = 2 from rfl, Nat.reduceMul, Nat.reduceEqDiff, Go.Addr.add, ↓reduceIte] at hx109_2); have qi109 : (2 < t104.length) = True := eq_true (by omega); (try rw [show ((2 : Int)).toNat = 2 from rfl] at hx109_0); (try rw [show 2 * 3 = 6 from rfl] at hx109_0); (try rw [show ((2 : Int)).toNat = 2 from rfl] at hx109_1); (try rw [show 2 * 3 = 6 from rfl] at hx109_1); (try rw [show ((2 : Int)).toNat = 2 from rfl] at hx109_2); (try rw [show 2 * 3 = 6 from rfl] at hx109_2); replace p109 := eq_true p109; replace q109 := eq_true q109))
                go_ret
                exact ⟨by first | rfl | (simp [errW_none, errW_some] <;> rfl) | (simp [*, errW_none, errW_some] <;> rfl), by repeat (first | (with_reducible first | exact HB.out | apply below_alloc | apply pw_below_drewN | apply below_drew1) | exact HB.out)⟩
            · rw [if_neg c7] at H
              exact absurd H (by simp)
          · rw [if_neg c6] at H
            have c6b0 : (((rd_T34 t104 1).f0) == 1) = false := beq_eq_false_iff_ne.mpr c6
            have c6b1 : (((rd_T34 t104 1).f0) != 1) = true := bne_iff_ne.mpr c6
            obtain rfl := Option.some.inj H
            go_enter Try.func19, Try.ntmps19
            go_wp2_with (first | ((with_reducible refine gate_dst (N := 2) rfl ?_); refine Kd.R_lit (Kd.int .i64) _ 3 ?hg (N := 2) ?hd (xs := ([(-1), 0, 0, 1] : List Int)) (inner := [.int .i64 (-1), .int .i64 0, .int .i64 0, .int .i64 1]) (ok := fun _ => True) (okp := fun _ => True) ?hr ?hp (fun _ hk => hk) trivial (Below.refl _ _) (Nat.le_refl _) (by simp) ?_; (case hd => rfl); (case hg => rfl); (case hr => first | (go_simp; done) | (go_simp; rfl)); (case hp => exact (Reps.one (show Kd.M (Kd.int .i64) _ _ _ (-1) [.int .i64 (-1)] from rfl) (Reps.one (show Kd.M (Kd.int .i64) _ _ _ 0 [.int .i64 0] from rfl) (Reps.one (show Kd.M (Kd.int .i64) _ _ _ 0 [.int .i64 0] from rfl) (Reps.one (show Kd.M (Kd.int .i64) _ _ _ 1 [.int .i64 1] from rfl) (Reps.none _ _)))))); intro v102 w26 ho27 hb hg_ hnew_; clear hg_ hnew_; (first | rw [← Ny101.out] at ho27 | (simp only [Int.reduceToNat] at ho27; rw [← Ny101.out] at ho27)); have n0_ := Aside0.mk (Kd.R_lower ho27 (below_size (by repeat (first | (with_reducible first | exact HB.out | apply below_alloc | apply pw_below_drewN | apply below_drew1) | exact HB.out)))); have n1_ := Aside0.mk (below_step (by repeat (first | (with_reducible first | exact HB.out | apply below_alloc | apply pw_below_drewN | apply below_drew1) | exact HB.out)) hb); clear HB; have HO103 := n0_; have HB := n1_; clear n0_ n1_; clear hb ho27; obtain ⟨Ao28, co28, eo28⟩ := Kd.R_slice HO103.out; subst eo28) | ((with_reducible refine gate_callee (f := 21) rfl ?_); refine goesL_ (some 3) rfl rfl Try.func21 (by kernel_rfl) rfl #[.slice Ao28 y101.length co28] rfl (by (try simp only [List.map_toArray, List.map_cons, List.map_nil]); first | done | rfl | (simp only [List.length_drop, List.length_take]; rfl)) ?_; (with_reducible refine (forest_Row.calls k _ _ y101 t104 _ ?side1 ?side2 A1.out).mono ?_); (case side1 => repeat (first | exact (Kd.R_reads' HO103.out).2.2 | (with_reducible refine Kd.C_alloc ?_ _) | (with_reducible refine Kd.C_drewN ?_ _) | (with_reducible refine Kd.C_drew ?_))); (case side2 => exact (Kd.R_reads' HO103.out).2.1); rintro e w29 ⟨v105, rfl, ho0, hb⟩; refine ⟨_, rfl, ?_⟩; have n0_ := Aside0.mk (Kd.R_below (by (with_reducible repeat (first | apply Kd.R_alloc | apply Kd.R_drewN | apply Kd.R_drew)); exact HO103.out) hb); have n1_ := Aside0.mk (Kd.R_lower ho0 (below_size (by repeat (first | (with_reducible first | exact HB.out | apply below_alloc | apply pw_below_drewN | apply below_drew1) | exact HB.out)))); have n2_ := Aside0.mk (below_step (by repeat (first | (with_reducible first | exact HB.out | apply below_alloc | apply pw_below_drewN | apply below_drew1) | exact HB.out)) hb); clear HO103; clear HB; have HO103 := n0_; have HO106 := n1_; have HB := n2_; clear n0_ n1_ n2_; (try clear hb); (try clear hb2); (try clear hk); (try clear hi); (try clear ho0); obtain ⟨Ao30, co30, eo30⟩ := Kd.R_slice HO106.out; subst eo30; have p107 : 0 ≤ (0 : Int) := (by omega); have q107 : 0 < (t104.length : Int) := of_decide_eq_true (by first | (with_reducible assumption) | assumption); obtain ⟨ad107, e107, hx107_0, hx107_1, hx107_2⟩ := at_T34 (Kd.R_reads' HO106.out).2.2 0 p107 q107; cases e107; have qi107 : (0 < t104.length) = True := eq_true (by omega); (try rw [show ((0 : Int)).toNat = 0 from rfl] at hx107_0); (try rw [show 0 * 3 = 0 from rfl] at hx107_0); (try rw [Addr.add_zero'] at hx107_0); (try rw [show ((0 : Int)).toNat = 0 from rfl] at hx107_1); (try rw [show 0 * 3 = 0 from rfl] at hx107_1); (try rw [Addr.add_zero'] at hx107_1); (try rw [show ((0 : Int)).toNat = 0 from rfl] at hx107_2); (try rw [show 0 * 3 = 0 from rfl] at hx107_2); (try rw [Addr.add_zero'] at hx107_2); replace p107 := eq_true p107; replace q107 := eq_true q107; have p108 : 0 ≤ (1 : Int) := (by omega); have q108 : 1 < (t104.length : Int) := of_decide_eq_true (by first | (with_reducible assumption) | assumption); obtain ⟨ad108, e108, hx108_0, hx108_1, hx108_2⟩ := at_T34 (Kd.R_reads' HO106.out).2.2 1 p108 q108; obtain rfl : ad107 = ad108 := (by injection e108); (try simp only [show (1 : Int).toNat = 1 from rfl, Nat.reduceMul, Nat.reduceEqDiff, Go.Addr.add, ↓reduceIte] at hx108_0); (try simp only [show (1 : Int).toNat = 1 from rfl, Nat.reduceMul, Nat.reduceEqDiff, Go.Addr.add, ↓reduceIte] at hx108_1); (try simp only [show (1 : Int).toNat = 1 from rfl, Nat.reduceMul, Nat.reduceEqDiff, Go.Addr.add, ↓reduceIte] at hx108_2); have qi108 : (1 < t104.length) = True := eq_true (by omega); (try rw [show ((1 : Int)).toNat = 1 from rfl] at hx108_0); (try rw [show 1 * 3 = 3 from rfl] at hx108_0); (try rw [show ((1 : Int)).toNat = 1 from rfl] at hx108_1); (try rw [show 1 * 3 = 3 from rfl] at hx108_1); (try rw [show ((1 : Int)).toNat = 1 from rfl] at hx108_2); (try rw [show 1 * 3 = 3 from rfl] at hx108_2); replace p108 := eq_true p108; replace q108 := eq_true q108))
            go_ret
            exact ⟨by first | rfl | (simp [errW_none, errW_some] <;> rfl) | (simp [*, errW_none, errW_some] <;> rfl), by repeat (first | (with_reducible first | exact HB.out | apply below_alloc | apply pw_below_drewN | apply below_drew1) | exact HB.out)⟩
        · rw [if_neg c5] at H
          exact absurd H (by simp)
      · rw [if_neg c4] at H
        have c4b0 : (((rd_T34 t104 0).f0) == 0) = false := beq_eq_false_iff_ne.mpr c4
        have c4b1 : (((rd_T34 t104 0).f0) != 0) = true := bne_iff_ne.mpr c4
        obtain rfl := Option.some.inj H
        go_enter Try.func19, Try.ntmps19
        go_wp2_with (first | ((with_reducible refine gate_dst (N := 2) rfl ?_); refine Kd.R_lit (Kd.int .i64) _ 3 ?hg (N := 2) ?hd (xs := ([(-1), 0, 0, 1] : List Int)) (inner := [.int .i64 (-1), .int .i64 0, .int .i64 0, .int .i64 1]) (ok := fun _ => True) (okp := fun _ => True) ?hr ?hp (fun _ hk => hk) trivial (Below.refl _ _) (Nat.le_refl _) (by simp) ?_; (case hd => rfl); (case hg => rfl); (case hr => first | (go_simp; done) | (go_simp; rfl)); (case hp => exact (Reps.one (show Kd.M (Kd.int .i64) _ _ _ (-1) [.int .i64 (-1)] from rfl) (Reps.one (show Kd.M (Kd.int .i64) _ _ _ 0 [.int .i64 0] from rfl) (Reps.one (show Kd.M (Kd.int .i64) _ _ _ 0 [.int .i64 0] from rfl) (Reps.one (show Kd.M (Kd.int .i64) _ _ _ 1 [.int .i64 1] from rfl) (Reps.none _ _)))))); intro v102 w31 ho32 hb hg_ hnew_; clear hg_ hnew_; (first | rw [← Ny101.out] at ho32 | (simp only [Int.reduceToNat] at ho32; rw [← Ny101.out] at ho32)); have n0_ := Aside0.mk (Kd.R_lower ho32 (below_size (by repeat (first | (with_reducible first | exact HB.out | apply below_alloc | apply pw_below_drewN | apply below_drew1) | exact HB.out)))); have n1_ := Aside0.mk (below_step (by repeat (first | (with_reducible first | exact HB.out | apply below_alloc | apply pw_below_drewN | apply below_drew1) | exact HB.out)) hb); clear HB; have HO103 := n0_; have HB := n1_; clear n0_ n1_; clear hb ho32; obtain ⟨Ao33, co33, eo33⟩ := Kd.R_slice HO103.out; subst eo33) | ((with_reducible refine gate_callee (f := 21) rfl ?_); refine goesL_ (some 3) rfl rfl Try.func21 (by kernel_rfl) rfl #[.slice Ao33 y101.length co33] rfl (by (try simp only [List.map_toArray, List.map_cons, List.map_nil]); first | done | rfl | (simp only [List.length_drop, List.length_take]; rfl)) ?_; (with_reducible refine (forest_Row.calls k _ _ y101 t104 _ ?side1 ?side2 A1.out).mono ?_); (case side1 => repeat (first | exact (Kd.R_reads' HO103.out).2.2 | (with_reducible refine Kd.C_alloc ?_ _) | (with_reducible refine Kd.C_drewN ?_ _) | (with_reducible refine Kd.C_drew ?_))); (case side2 => exact (Kd.R_reads' HO103.out).2.1); rintro e w34 ⟨v105, rfl, ho0, hb⟩; refine ⟨_, rfl, ?_⟩; have n0_ := Aside0.mk (Kd.R_below (by (with_reducible repeat (first | apply Kd.R_alloc | apply Kd.R_drewN | apply Kd.R_drew)); exact HO103.out) hb); have n1_ := Aside0.mk (Kd.R_lower ho0 (below_size (by repeat (first | (with_reducible first | exact HB.out | apply below_alloc | apply pw_below_drewN | apply below_drew1) | exact HB.out)))); have n2_ := Aside0.mk (below_step (by repeat (first | (with_reducible first | exact HB.out | apply below_alloc | apply pw_below_drewN | apply below_drew1) | exact HB.out)) hb); clear HO103; clear HB; have HO103 := n0_; have HO106 := n1_; have HB := n2_; clear n0_ n1_ n2_; (try clear hb); (try clear hb2); (try clear hk); (try clear hi); (try clear ho0); obtain ⟨Ao35, co35, eo35⟩ := Kd.R_slice HO106.out; subst eo35; have p107 : 0 ≤ (0 : Int) := (by omega); have q107 : 0 < (t104.length : Int) := of_decide_eq_true (by first | (with_reducible assumption) | assumption); obtain ⟨ad107, e107, hx107_0, hx107_1, hx107_2⟩ := at_T34 (Kd.R_reads' HO106.out).2.2 0 p107 q107; cases e107; have qi107 : (0 < t104.length) = True := eq_true (by omega); (try rw [show ((0 : Int)).toNat = 0 from rfl] at hx107_0); (try rw [show 0 * 3 = 0 from rfl] at hx107_0); (try rw [Addr.add_zero'] at hx107_0); (try rw [show ((0 : Int)).toNat = 0 from rfl] at hx107_1); (try rw [show 0 * 3 = 0 from rfl] at hx107_1); (try rw [Addr.add_zero'] at hx107_1); (try rw [show ((0 : Int)).toNat = 0 from rfl] at hx107_2); (try rw [show 0 * 3 = 0 from rfl] at hx107_2); (try rw [Addr.add_zero'] at hx107_2); replace p107 := eq_true p107; replace q107 := eq_true q107))
        go_ret
        exact ⟨by first | rfl | (simp [errW_none, errW_some] <;> rfl) | (simp [*, errW_none, errW_some] <;> rfl), by repeat (first | (with_reducible first | exact HB.out | apply below_alloc | apply pw_below_drewN | apply below_drew1) | exact HB.out)⟩
    · rw [if_neg c3] at H
      exact absurd H (by simp)
  · rw [if_neg c2] at H
    have c2b0 : ((t104.length : Int) == 4) = false := beq_eq_false_iff_ne.mpr c2
    have c2b1 : ((t104.length : Int) != 4) = true := bne_iff_ne.mpr c2
    obtain rfl := Option.some.inj H
    go_enter Try.func19, Try.ntmps19
    go_wp2_with (first | ((with_reducible refine gate_dst (N := 2) rfl ?_); refine Kd.R_lit (Kd.int .i64) _ 3 ?hg (N := 2) ?hd (xs := ([(-1), 0, 0, 1] : List Int)) (inner := [.int .i64 (-1), .int .i64 0, .int .i64 0, .int .i64 1]) (ok := fun _ => True) (okp := fun _ => True) ?hr ?hp (fun _ hk => hk) trivial (Below.refl _ _) (Nat.le_refl _) (by simp) ?_; (case hd => rfl); (case hg => rfl); (case hr => first | (go_simp; done) | (go_simp; rfl)); (case hp => exact (Reps.one (show Kd.M (Kd.int .i64) _ _ _ (-1) [.int .i64 (-1)] from rfl) (Reps.one (show Kd.M (Kd.int .i64) _ _ _ 0 [.int .i64 0] from rfl) (Reps.one (show Kd.M (Kd.int .i64) _ _ _ 0 [.int .i64 0] from rfl) (Reps.one (show Kd.M (Kd.int .i64) _ _ _ 1 [.int .i64 1] from rfl) (Reps.none _ _)))))); intro v102 w36 ho37 hb hg_ hnew_; clear hg_ hnew_; (first | rw [← Ny101.out] at ho37 | (simp only [Int.reduceToNat] at ho37; rw [← Ny101.out] at ho37)); have n0_ := Aside0.mk (Kd.R_lower ho37 (below_size (by repeat (first | (with_reducible first | exact HB.out | apply below_alloc | apply pw_below_drewN | apply below_drew1) | exact HB.out)))); have n1_ := Aside0.mk (below_step (by repeat (first | (with_reducible first | exact HB.out | apply below_alloc | apply pw_below_drewN | apply below_drew1) | exact HB.out)) hb); clear HB; have HO103 := n0_; have HB := n1_; clear n0_ n1_; clear hb ho37; obtain ⟨Ao38, co38, eo38⟩ := Kd.R_slice HO103.out; subst eo38) | ((with_reducible refine gate_callee (f := 21) rfl ?_); refine goesL_ (some 3) rfl rfl Try.func21 (by kernel_rfl) rfl #[.slice Ao38 y101.length co38] rfl (by (try simp only [List.map_toArray, List.map_cons, List.map_nil]); first | done | rfl | (simp only [List.length_drop, List.length_take]; rfl)) ?_; (with_reducible refine (forest_Row.calls k _ _ y101 t104 _ ?side1 ?side2 A1.out).mono ?_); (case side1 => repeat (first | exact (Kd.R_reads' HO103.out).2.2 | (with_reducible refine Kd.C_alloc ?_ _) | (with_reducible refine Kd.C_drewN ?_ _) | (with_reducible refine Kd.C_drew ?_))); (case side2 => exact (Kd.R_reads' HO103.out).2.1); rintro e w39 ⟨v105, rfl, ho0, hb⟩; refine ⟨_, rfl, ?_⟩; have n0_ := Aside0.mk (Kd.R_below (by (with_reducible repeat (first | apply Kd.R_alloc | apply Kd.R_drewN | apply Kd.R_drew)); exact HO103.out) hb); have n1_ := Aside0.mk (Kd.R_lower ho0 (below_size (by repeat (first | (with_reducible first | exact HB.out | apply below_alloc | apply pw_below_drewN | apply below_drew1) | exact HB.out)))); have n2_ := Aside0.mk (below_step (by repeat (first | (with_reducible first | exact HB.out | apply below_alloc | apply pw_below_drewN | apply below_drew1) | exact HB.out)) hb); clear HO103; clear HB; have HO103 := n0_; have HO106 := n1_; have HB := n2_; clear n0_ n1_ n2_; (try clear hb); (try clear hb2); (try clear hk); (try clear hi); (try clear ho0); obtain ⟨Ao40, co40, eo40⟩ := Kd.R_slice HO106.out; subst eo40))
    go_ret
    exact ⟨by first | rfl | (simp [errW_none, errW_some] <;> rfl) | (simp [*, errW_none, errW_some] <;> rfl), by repeat (first | (with_reducible first | exact HB.out | apply below_alloc | apply pw_below_drewN | apply below_drew1) | exact HB.out)⟩

/-! ### forest_Depth: function 23 -/
def forest_Depth.l0 : Nat → Int → List (S34) → Int → Int → Option (Int)
  | 0, _, _, _, _ => none
  | k + 1, x3, x7, x8, x9 => if x9 < x8 then (if 0 ≤ x9 then (if x9 < (x7.length : Int) then (forest_Depth.l0 k (mx x3 ((rd_T34 x7 x9).f1)) x7 x8 (wrap64 (x9 + 1))) else (none)) else (none)) else (some x3)
def forest_Depth.f (k : Nat) (l0 : List Int) : Option (Int) := (forest_Row.f k l0).bind fun t112 => (forest_Depth.l0 k (-1) t112 (t112.length : Int) 0)
theorem forest_Depth.mono_l : ∀ k, (∀ y0 y1 y2 y3, LeO (forest_Depth.l0 k y0 y1 y2 y3) (forest_Depth.l0 (k + 1) y0 y1 y2 y3))
  | 0 => fun _ _ _ _ r h => by simp [forest_Depth.l0] at h
  | k + 1 => by
    have ih0 := forest_Depth.mono_l k
    · intro y0 y1 y2 y3
      unfold forest_Depth.l0
      repeat' first
      | (with_reducible exact ih0 _ _ _ _)
      | (with_reducible exact forest_Row.mono _ _)
      | (with_reducible exact LeO.refl _)
      | (with_reducible exact LeO.none _)
      | (with_reducible refine LeO.ite ?_ ?_)
      | (with_reducible refine LeO.bind ?_ (fun _ => ?_))
      | exact ih0 _ _ _ _
      | exact forest_Row.mono _ _
      | exact LeO.none _
      | refine LeO.ite ?_ ?_
      | refine LeO.bind ?_ (fun _ => ?_)
theorem forest_Depth.mono : ∀ a0 k, LeO (forest_Depth.f k a0) (forest_Depth.f (k + 1) a0) := by
  intro a0 k
  have ih0 := forest_Depth.mono_l k
  unfold forest_Depth.f
  repeat' first
      | (with_reducible exact ih0 _ _ _ _)
      | (with_reducible exact forest_Row.mono _ _)
      | (with_reducible exact LeO.refl _)
      | (with_reducible exact LeO.none _)
      | (with_reducible refine LeO.ite ?_ ?_)
      | (with_reducible refine LeO.bind ?_ (fun _ => ?_))
      | exact ih0 _ _ _ _
      | exact forest_Row.mono _ _
      | exact LeO.none _
      | refine LeO.ite ?_ ?_
      | refine LeO.bind ?_ (fun _ => ?_)
set_option maxHeartbeats 8000000 in
set_option maxRecDepth 100000 in
theorem forest_Depth.calls (k : Nat) (A0 : Option Addr) (c0 : Nat) (l0 : List Int) (r : Int) (w : World) (hr0 : Kd.C (Kd.int .i64) w A0 l0.length l0) (hc0 : l0.length ≤ c0) (h : forest_Depth.f k l0 = some r) :
    Calls Try.prog 23 #[.slice A0 l0.length c0] w fun e w' => e = .returned (.int .i64 r) ∧ Below w.heap.size w w' := by
  have hu34 := Try.underlying34
  have HR0 := Aside0.mk hr0
  have HC0 := Aside0.mk hc0
  clear hr0 hc0
  have HB := Aside0.mk (Below.refl w.heap.size w)
  have H : ((forest_Row.f k l0).bind fun t112 => (forest_Depth.l0 k (-1) t112 (t112.length : Int) 0)) = some r := h
  clear h
  replace H := Option.bind_eq_some_iff.mp H
  obtain ⟨t112, A20, H⟩ := H
  replace H : (forest_Depth.l0 k (-1) t112 (t112.length : Int) 0) = some r := H
  have A2 := Aside0.mk A20
  clear A20
  have H' := Aside0.mk H
  clear H
  go_enter Try.func23, Try.ntmps23
  go_wp2_with (first | ((with_reducible refine gate_callee (f := 21) rfl ?_); refine goesL_ (some 7) rfl rfl Try.func21 (by kernel_rfl) rfl #[.slice A0 l0.length c0] rfl (by (try simp only [List.map_toArray, List.map_cons, List.map_nil]); first | done | rfl | (simp only [List.length_drop, List.length_take]; rfl)) ?_; (with_reducible refine (forest_Row.calls k _ _ l0 t112 _ ?side1 ?side2 A2.out).mono ?_); (case side1 => repeat (first | exact HR0.out | (with_reducible refine Kd.C_alloc ?_ _) | (with_reducible refine Kd.C_drewN ?_ _) | (with_reducible refine Kd.C_drew ?_))); (case side2 => exact HC0.out); rintro e w3 ⟨v113, rfl, ho0, hb⟩; refine ⟨_, rfl, ?_⟩; have n0_ := Aside0.mk (Kd.R_lower ho0 (below_size (by repeat (first | (with_reducible first | exact HB.out | apply below_alloc | apply pw_below_drewN | apply below_drew1) | exact HB.out)))); have n1_ := Aside0.mk (below_step (by repeat (first | (with_reducible first | exact HB.out | apply below_alloc | apply pw_below_drewN | apply below_drew1) | exact HB.out)) hb); clear HB; have HO114 := n0_; have HB := n1_; clear n0_ n1_; (try clear hb); (try clear hb2); (try clear hk); (try clear hi); (try clear ho0); obtain ⟨Ao4, co4, eo4⟩ := Kd.R_slice HO114.out; subst eo4))
  go_loopg [3, 9] k (fun kq v3 v9 w' => ∃ (x3_1 : Int) (x9_1 : Int), v3 = .int .i64 x3_1 ∧ v9 = .int .i64 x9_1 ∧ Aside0 (forest_Depth.l0 kq x3_1 t112 (t112.length : Int) x9_1 = some r) ∧ Aside0 (kq ≤ k) ∧ Aside0 (Kd.R k34 34 w' w.heap.size (fun _ => True) (.slice Ao4 t112.length co4) t112) ∧ Aside0 (Below w.heap.size w w'))
  case atStart => exact ⟨((-1)), (0), (by first | rfl | (simp; done) | (simp [*]; done)), (by first | rfl | (simp; done) | (simp [*]; done)), H', ⟨Nat.le_refl _⟩, ⟨by (with_reducible repeat (first | apply Kd.R_alloc | apply Kd.R_drewN | apply Kd.R_drew)); exact HO114.out⟩, ⟨by repeat (first | (with_reducible first | exact HB.out | apply below_alloc | apply pw_below_drewN | apply below_drew1) | exact HB.out)⟩⟩
  case round =>
    clear H'
    try clear c2
    try clear p2
    obtain ⟨x3_1, x9_1, rfl, rfl, HA, HK1, HO_7, HB⟩ := hrel
    cases gk with
    | zero => exact absurd HA.out (by simp [forest_Depth.l0])
    | succ k1 =>
      have H := HA.out
      clear HA
      simp only [forest_Depth.l0] at H
      by_cases c5 : x9_1 < (t112.length : Int)
      · rw [if_pos c5] at H
        have c5b0 : decide (x9_1 < (t112.length : Int)) = true := decide_eq_true c5
        clear c5
        by_cases c6 : 0 ≤ x9_1
        · rw [if_pos c6] at H
          have c6b0 : decide (0 ≤ x9_1) = true := decide_eq_true c6
          clear c6
          by_cases c7 : x9_1 < (t112.length : Int)
          · rw [if_pos c7] at H
            have c7b0 : decide (x9_1 < (t112.length : Int)) = true := decide_eq_true c7
            clear c7
            obtain ⟨ji8, hji8⟩ : ∃ j_ : Int, (mx x3_1 ((rd_T34 t112 x9_1).f1)) = j_ := ⟨_, rfl⟩
            replace H : (forest_Depth.l0 k1 ji8 t112 (t112.length : Int) (wrap64 (x9_1 + 1))) = some r := by first | (rw [hji8] at H; exact H) | (simp only [hji8] at H ⊢; exact H)
            have hji8_ : (if x3_1 < ((rd_T34 t112 x9_1).f1) then ((rd_T34 t112 x9_1).f1) else x3_1) = ji8 := hji8
            have H' := Aside0.mk H
            clear H
            have p115 : 0 ≤ (x9_1 : Int) := of_decide_eq_true (by first | (with_reducible assumption) | assumption)
            have q115 : x9_1 < (t112.length : Int) := of_decide_eq_true (by first | (with_reducible assumption) | assumption)
            obtain ⟨ad115, e115, hx115_0, hx115_1, hx115_2⟩ := at_T34 (Kd.R_reads' HO_7.out).2.2 x9_1 p115 q115
            cases e115
            replace p115 := eq_true p115
            replace q115 := eq_true q115
            go_wp2_with (first | ((with_reducible refine gate_dst (N := 5) rfl ?_); refine box_event ?hg (N := 5) ?hd (cs := #[.int .i64 0, .int .i64 0, .int .i64 0]) (t := 34) ?hr ?_; (case hd => rfl); (case hg => rfl); (case hr => first | (go_simp; done) | (go_simp; rfl)); intro gb116 hg w9 hbox hb; have n0_ := Aside0.mk (Kd.R_below (Kd.R_elderB (by (with_reducible repeat (first | apply Kd.R_alloc | apply Kd.R_drewN | apply Kd.R_drew)); exact HO_7.out) gb116 (Nat.le_of_eq hg.symm)) hb); have n1_ := Aside0.mk (below_step (by repeat (first | (with_reducible first | exact HB.out | apply below_alloc | apply pw_below_drewN | apply below_drew1) | exact HB.out)) hb); have n2_ := Aside0.mk (hbox); have n3_ := Aside0.mk ((by rw [hg]; exact (below_size (by repeat (first | (with_reducible first | exact HB.out | apply below_alloc | apply pw_below_drewN | apply below_drew1) | exact HB.out))) : w.heap.size ≤ gb116)); have n4_ := Aside0.mk ((by rw [hg]; exact (below_size (by repeat (first | (with_reducible first | exact HB.out | apply below_alloc | apply pw_below_drewN | apply below_drew1) | exact HB.out))) : w.heap.size ≤ gb116)); clear HO_7; clear HB; have HO_7 := n0_; have HB := n1_; have BK116 := n2_; have GW116 := n3_; have GE116 := n4_; clear n0_ n1_ n2_ n3_ n4_; clear hb hbox hg; have hcz10_0 : w9.cell? ⟨gb116, 0, none⟩ = some (.int .i64 0) := (blk_cell BK116.out 0).trans rfl; have hcz10_1 : w9.cell? ⟨gb116, 1, none⟩ = some (.int .i64 0) := (blk_cell BK116.out 1).trans rfl; have hcz10_2 : w9.cell? ⟨gb116, 2, none⟩ = some (.int .i64 0) := (blk_cell BK116.out 2).trans rfl; have hfz10_0 := blk_frozen BK116.out 0; have hfz10_1 := blk_frozen BK116.out 1; have hfz10_2 := blk_frozen BK116.out 2))
            go_roundg k1
            case measure => have := HK1.out; omega
            case rel => exact ⟨(ji8), (wrap64 (x9_1 + 1)), (by first | rfl | (simp; done) | (simp only [← hji8] <;> (first | rfl | simp)) | (simp [*]; done)), (by first | rfl | (simp; done) | (simp [*]; done)), H', ⟨by have := HK1.out; omega⟩, ⟨by (with_reducible repeat (first | apply Kd.R_alloc | apply Kd.R_drewN | apply Kd.R_drew)); exact Kd.R_mono (Kd.R_far (p := ⟨gb116, 2, none⟩) (Kd.R_far (p := ⟨gb116, 1, none⟩) (Kd.R_far (p := ⟨gb116, 0, none⟩) (Kd.R_mono HO_7.out (fun k_ hk => (⟨hk, hk.2⟩ : _ ∧ k_ ≠ gb116))) (fun _ hk => hk.2) (.int .i64 ((rd_T34 t112 x9_1).f0))) (fun _ hk => hk.2) (.int .i64 ((rd_T34 t112 x9_1).f1))) (fun _ hk => hk.2) (.int .i64 ((rd_T34 t112 x9_1).f2))) (fun _ hk => trivial)⟩, ⟨by repeat (first | (with_reducible first | exact HB.out | apply below_alloc | apply pw_below_drewN | apply below_drew1 | refine below_set ?_ GE116.out) | exact HB.out)⟩⟩
          · rw [if_neg c7] at H
            exact absurd H (by simp)
        · rw [if_neg c6] at H
          exact absurd H (by simp)
      · rw [if_neg c5] at H
        have c5b0 : decide (x9_1 < (t112.length : Int)) = false := decide_eq_false c5
        clear c5
        obtain rfl := Option.some.inj H
        go_wp2
        go_ret
        exact ⟨by first | rfl | (simp [errW_none, errW_some] <;> rfl) | (simp [*, errW_none, errW_some] <;> rfl), by repeat (first | (with_reducible first | exact HB.out | apply below_alloc | apply pw_below_drewN | apply below_drew1) | exact HB.out)⟩

end Go.Proofs.Ytcgjplolehhpjaa.N
