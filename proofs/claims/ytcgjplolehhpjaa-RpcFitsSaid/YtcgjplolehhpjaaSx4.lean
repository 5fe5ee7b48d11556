-- WRITTEN FOR THIS CLAIM by wip/tools/mp.py, a program of this project that drives the kit's print; the functions that the print does not take are this project's own texts.
import Derived.Test.YtcgjplolehhpjaaSx0
import Derived.Test.YtcgjplolehhpjaaSx1
import Derived.Test.YtcgjplolehhpjaaSx3
namespace Go.Proofs.Ytcgjplolehhpjaa.S
open Go.RowKit Go.Proofs.YtcgjplolehhpjaaW.PrintWords Go.Proofs.YtcgjplolehhpjaaW.PrintLast Go.Proofs.YtcgjplolehhpjaaW.PrintMore
attribute [local go_sem] max2_int min2_int max_two min_two max_three min_three max_four min_four   -- for this text's walks alone
set_option linter.unusedVariables false
set_option linter.unusedSimpArgs false

attribute [local go_sem high] eqA46
/-! ### rpc_Of: function 33 -/
def rpc_Of_pair (c s : S37 × Bool) : Bool := s.2 && (c.2 && ((s.1.f3 == 2) && (c.1.f3 == 1)))
def rpc_Of_go (k : Nat) (l0 : List S37) : List Int → Int → List S46 → Option (List S46)
  | [], _, out => some out
  | p :: r, i, out => (rpc_finder_at k l0 i).bind fun s => (rpc_finder_at k l0 p).bind fun c => rpc_Of_go k l0 r (i + 1) (if rpc_Of_pair c s = true then out ++ [⟨p, i⟩] else out)
theorem rpc_Of_go_mono (k : Nat) (l0 : List S37) : ∀ (r : List Int) (i : Int) (out : List S46), LeO (rpc_Of_go k l0 r i out) (rpc_Of_go (k + 1) l0 r i out)
  | [], _, _ => LeO.refl _
  | p :: r, i, out => LeO.bind (rpc_finder_at_mono _ _ _) (fun _ => LeO.bind (rpc_finder_at_mono _ _ _) (fun _ => rpc_Of_go_mono k l0 r _ _))
def rpc_Of.f (k : Nat) (l0 : List S37) (l1 : List Int) : Option (List S46) :=
  if l1.length = l0.length then (if l1.length ≤ 1000000 then (if Go.Proofs.Ytcgjplolehhpjaa.H.okB l1 = true then rpc_Of_go k l0 l1 0 [] else some []) else none) else some []
theorem rpc_Of.mono : ∀ a0 a1 k, LeO (rpc_Of.f k a0 a1) (rpc_Of.f (k + 1) a0 a1) := by
  intro a0 a1 k
  exact LeO.ite (LeO.ite (LeO.ite (rpc_Of_go_mono k a0 a1 0 []) (LeO.refl _)) (LeO.refl _)) (LeO.refl _)
set_option maxHeartbeats 8000000 in
set_option maxRecDepth 100000 in
theorem rpc_Of.calls (k : Nat) (A0 : Option Addr) (c0 : Nat) (l0 : List S37) (A1 : Option Addr) (c1 : Nat) (l1 : List Int) (r : List S46) (w : World) (hr0 : Kd.C k37 w A0 l0.length l0) (hc0 : l0.length ≤ c0) (hr1 : Kd.C (Kd.int .i64) w A1 l1.length l1) (hc1 : l1.length ≤ c1) (h : rpc_Of.f k l0 l1 = some r) :
    Calls Try.prog 33 #[.slice A0 l0.length c0, .slice A1 l1.length c1] w fun e w' => ∃ v0_ : Value, e = .returned (v0_) ∧ Kd.R k46 46 w' w.heap.size (fun _ => True) v0_ r ∧ Below w.heap.size w w' := by
  have hu_ := Try.underlying37
  have hup_ := Try.underlying46
  have hmax := Kd.C_max hr0
  have hmax1 := Kd.C_max hr1
  have HR0 := Aside0.mk hr0
  have HR1 := Aside0.mk hr1
  have HB := Aside0.mk (Below.refl w.heap.size w)
  clear hr0 hr1
  unfold rpc_Of.f at h
  by_cases hl : l1.length = l0.length
  case neg =>
    rw [if_neg hl] at h
    obtain rfl := Option.some.inj h
    clear h
    have hlb : (l1.length == l0.length) = false := beq_eq_false_iff_ne.mpr hl
    have hlc : ((l1.length : Int) != (l0.length : Int)) = true := bne_iff_ne.mpr (by omega)
    clear hl
    go_enter Try.func33, Try.ntmps33
    go_wp2
    go_ret
    exact ⟨_, rfl, Kd.R_nil _ _ _ _ _, HB.out⟩
  rw [if_pos hl] at h
  by_cases hn : l1.length ≤ 1000000
  case neg => rw [if_neg hn] at h; cases h
  rw [if_pos hn] at h
  have HH := Aside0.mk h
  have HL := Aside0.mk hl
  clear h
  rw [← hl] at hmax
  have HX := Aside0.mk hc0
  have hlb : (l1.length == l0.length) = true := beq_iff_eq.mpr hl
  have hlc : ((l1.length : Int) != (l0.length : Int)) = false := bne_eq_false_iff_eq.mpr (by omega)
  clear hl
  go_enter Try.func33, Try.ntmps33
  go_wp2
  go_loopg [22] l1.length (fun d v22 wr => ∃ (i : Nat), i + d = l1.length ∧ v22 = .int .i64 i ∧ w = wr ∧ Aside0 (∀ j, j < i → -1 ≤ l1.getD j 0 ∧ l1.getD j 0 < (l1.length : Int)))
  case atStart => exact ⟨0, by omega, rfl, rfl, ⟨fun j hj => absurd hj (Nat.not_lt_zero _)⟩⟩
  case round =>
    obtain ⟨i, hi, rfl, rfl, HN⟩ := hrel
    by_cases hlt : i < l1.length
    · have hltz : (i : Int) < (l1.length : Int) := by omega
      obtain ⟨ad, e, hx⟩ := Kd.at_int HR1.out (i : Int) (by omega) hltz
      cases e
      have hv : rd l1 (i : Int) = l1.getD i 0 := by unfold rd; rw [Int.toNat_natCast]
      rw [hv, Int.toNat_natCast] at hx
      clear hv
      by_cases hq : -1 ≤ l1.getD i 0 ∧ l1.getD i 0 < (l1.length : Int)
      · have h1 : decide (l1.getD i 0 < -1) = false := decide_eq_false (by omega)
        have h2 : decide ((l0.length : Int) ≤ l1.getD i 0) = false := decide_eq_false (by rw [← HL.out]; omega)
        have HQ := Aside0.mk hq
        generalize hz : l1.getD i 0 = z at hx h1 h2
        have HZ := Aside0.mk hz
        clear hz hq
        go_wp2
        go_roundg (gk - 1)
        case measure => omega
        case rel => exact ⟨i + 1, by omega, by go_num, rfl, ⟨fun j hj => by
          rcases Nat.lt_or_ge j i with h3 | h3
          · exact HN.out j h3
          · have hji : j = i := by omega
            rw [hji]; exact HQ.out⟩⟩
      · have HF := Aside0.mk (Go.Proofs.Ytcgjplolehhpjaa.H.okB_false hlt hq)
        have hr : r = [] := by
          have hh := HH.out
          rw [if_neg (by rw [HF.out]; decide)] at hh
          exact (Option.some.inj hh).symm
        subst hr
        by_cases h1 : l1.getD i 0 < -1
        · have h1b : decide (l1.getD i 0 < -1) = true := decide_eq_true h1
          generalize l1.getD i 0 = z at hx h1b
          clear hq h1
          go_wp2
          go_ret
          exact ⟨_, rfl, Kd.R_nil _ _ _ _ _, HB.out⟩
        · have h1b : decide (l1.getD i 0 < -1) = false := decide_eq_false h1
          have h2b : decide ((l0.length : Int) ≤ l1.getD i 0) = true := decide_eq_true (by rw [← HL.out]; omega)
          generalize l1.getD i 0 = z at hx h1b h2b
          clear hq h1
          go_wp2
          go_ret
          exact ⟨_, rfl, Kd.R_nil _ _ _ _ _, HB.out⟩
    · have hltz : ¬ (i : Int) < (l1.length : Int) := by omega
      have HF := Aside0.mk (Go.Proofs.Ytcgjplolehhpjaa.H.okB_true (p := l1) (fun j hj => HN.out j (by omega)))
      have hh := HH.out
      rw [if_pos HF.out] at hh
      have HG := Aside0.mk hh
      clear hh HH
      go_wp2_with (first
        | (go_at_call 44; refine (rpc_finder.calls A0 c0 l0.length _).mono ?_; rintro e w1 ⟨rfl, rfl⟩))
      go_loopg [8, 39] l1.length (fun d v8 v39 wr => ∃ (j : Nat) (out : List S46), j + d = l1.length ∧ v39 = .int .i64 j ∧ Aside0 (rpc_Of_go k l0 (l1.drop j) (j : Int) out = some r) ∧ Aside0 (out.length ≤ j) ∧ Aside0 (Below w.heap.size w wr) ∧ Aside0 (wr.heap[w.heap.size]? = some (.cells #[.slice A0 l0.length c0] 22 (0, 0))) ∧ Aside0 (Kd.R k46 46 wr (w.heap.size + 1) (fun _ => True) v8 out))
      case atStart => exact ⟨0, [], by omega, rfl, HG, ⟨Nat.le_refl _⟩, ⟨below_alloc (Below.refl _ _) _⟩, ⟨blk_new _ _⟩, ⟨Kd.R_nil _ _ _ _ _⟩⟩
      case round =>
        clear HG HN HF
        obtain ⟨j, out, hj, rfl, HG, HOL, HBr, HS, HO⟩ := hrel
        obtain ⟨A8, c8, rfl⟩ := Kd.R_slice HO.out
        by_cases hlt2 : j < l1.length
        · have hltz2 : (j : Int) < (l1.length : Int) := by omega
          obtain ⟨ad, e, hx⟩ := Kd.at_int HR1.out (j : Int) (by omega) hltz2
          cases e
          have hv : rd l1 (j : Int) = l1[j] := by unfold rd; rw [Int.toNat_natCast, List.getD_eq_getElem?_getD, List.getElem?_eq_getElem hlt2]; rfl
          rw [hv, Int.toNat_natCast] at hx
          replace hx := (HBr.out.cell (World.block_lt_of_cell? w _ hx)).trans hx
          have hg := HG.out
          rw [List.drop_eq_getElem_cons hlt2] at hg
          clear hv HG
          generalize l1[j] = z at hx hg
          obtain ⟨⟨s, os⟩, hs, hg⟩ := Option.bind_eq_some_iff.mp hg
          obtain ⟨⟨c, oc⟩, hc, hg⟩ := Option.bind_eq_some_iff.mp hg
          obtain ⟨x0, x1, x2, x3, x4, x5, x6, x7⟩ := c
          obtain ⟨y0, y1, y2, y3, y4, y5, y6, y7⟩ := s
          have HSS := Aside0.mk hs
          have HCC := Aside0.mk hc
          have HG := Aside0.mk hg
          clear hs hc hg
          go_wp2_with (fail)
          refine (rpc_finder_at_calls k A0 c0 l0 w.heap.size (j : Int) _ os _ HS.out (Kd.C_below HR0.out HBr.out) HSS.out).mono ?_
          rintro e w2 ⟨rfl, hb2⟩
          have HB2 := Aside0.mk (below_step HBr.out hb2)
          have HS2 := Aside0.mk (blk_below HS.out hb2)
          have HO2 := Aside0.mk (Kd.R_below HO.out hb2)
          clear hb2 HS HO
          go_wp2_with (fail)
          refine (rpc_finder_at_calls k A0 c0 l0 w.heap.size z _ oc _ (blk_alloc HS2.out _) (Kd.C_below HR0.out (below_alloc HB2.out _)) HCC.out).mono ?_
          rintro e w3 ⟨rfl, hb3⟩
          have HB3 := Aside0.mk (below_step (below_alloc HB2.out _) hb3)
          have HS3 := Aside0.mk (blk_below (blk_alloc HS2.out (.cells #[.int .u64 y0, .int .u64 y1, .int .u64 y2, .int .u8 y3, .string y4, .string y5, .int .i64 y6, .int .i64 y7] 37 (0, 0))) hb3)
          have HO3 := Aside0.mk (Kd.R_below (Kd.R_alloc HO2.out (.cells #[.int .u64 y0, .int .u64 y1, .int .u64 y2, .int .u8 y3, .string y4, .string y5, .int .i64 y6, .int .i64 y7] 37 (0, 0))) hb3)
          have HV := Aside0.mk (show w3.heap[w2.heap.size]? = some (.cells #[.int .u64 y0, .int .u64 y1, .int .u64 y2, .int .u8 y3, .string y4, .string y5, .int .i64 y6, .int .i64 y7] 37 (0, 0)) from blk_below (blk_new _ _) hb3)
          clear hb3 HS2 HO2
          have hk3 : ∀ o : Obj, (w3.alloc o).cell? ⟨w2.heap.size, 3, none⟩ = some (.int .u8 y3) := fun o => (blk_cell (blk_alloc HV.out o) 3).trans rfl
          have hend : rpc_Of_pair (⟨x0, x1, x2, x3, x4, x5, x6, x7⟩, oc) (⟨y0, y1, y2, y3, y4, y5, y6, y7⟩, os) = false → rpc_Of_go k l0 (l1.drop (j + 1)) ((j + 1 : Nat) : Int) out = some r := fun hp => by
            have h_ := HG.out
            rw [if_neg (by rw [hp]; decide)] at h_
            exact h_
          have HE := Aside0.mk hend
          clear hend
          by_cases hp : rpc_Of_pair (⟨x0, x1, x2, x3, x4, x5, x6, x7⟩, oc) (⟨y0, y1, y2, y3, y4, y5, y6, y7⟩, os) = true
          · obtain ⟨rfl, rfl, h3, h4⟩ : os = true ∧ oc = true ∧ (y3 == 2) = true ∧ (x3 == 1) = true := by
              unfold rpc_Of_pair at hp
              simpa only [Bool.and_eq_true] using hp
            have HGN := Aside0.mk (show rpc_Of_go k l0 (l1.drop (j + 1)) ((j + 1 : Nat) : Int) (out ++ [⟨z, (j : Int)⟩]) = some r by
              have h_ := HG.out
              rw [if_pos hp] at h_
              exact h_)
            have HLT3 := Aside0.mk (show w.heap.size + 1 ≤ (w3.alloc (.cells #[.int .u64 x0, .int .u64 x1, .int .u64 x2, .int .u8 x3, .string x4, .string x5, .int .i64 x6, .int .i64 x7] 37 (0, 0))).heap.size by have := blk_lt HS3.out; simp; omega)
            clear hp HE HG
            go_wp2_with (first | (at_builtin; refine Kd.R_append k46 (w0 := w3.alloc (.cells #[.int .u64 x0, .int .u64 x1, .int .u64 x2, .int .u8 x3, .string x4, .string x5, .int .i64 x6, .int .i64 x7] 37 (0, 0))) (W := w3.alloc (.cells #[.int .u64 x0, .int .u64 x1, .int .u64 x2, .int .u8 x3, .string x4, .string x5, .int .i64 x6, .int .i64 x7] 37 (0, 0))) (w.heap.size + 1) rfl _ _ 42 46 (.agg #[(.int .i64 0), (.int .i64 0)]) 16 rfl Try.underlying42 info46 rfl (by decide) (by decide) (.slice A8 out.length c8) out ⟨z, (j : Int)⟩ [.int .i64 z, .int .i64 (j : Int)] (fun _ => True) (fun _ => False) rfl (by rw [show (w3.alloc (.cells #[.int .u64 x0, .int .u64 x1, .int .u64 x2, .int .u8 x3, .string x4, .string x5, .int .i64 x6, .int .i64 x7] 37 (0, 0))).heap.size = w3.heap.size + 1 by simp]; rfl) (k46_mkM _ _ _ ⟨z, (j : Int)⟩) (fun q hq => hq.elim) (fun q hq => trivial) (Kd.R_alloc HO3.out _) (Below.refl _ _) HLT3.out (by have := HOL.out; omega) ?_; intro v1 w1 hr1 hb1 hg1 hat1; obtain ⟨A1n, c1n, rfl⟩ := Kd.R_slice hr1))
            have HR1n := Aside0.mk hr1
            have HG1 := Aside0.mk hg1
            have hne : ∀ q, some q = Value.ownBlock (.slice A8 out.length c8) → w.heap.size + 1 ≤ q := fun q e => Kd.R_base HO3.out q e.symm
            have HNE := Aside0.mk hne
            clear hr1 hg1 hb1 hat1 hne
            go_wp2_with (fail)
            go_roundg (gk - 1)
            case measure => omega
            case rel => exact ⟨j + 1, out ++ [⟨z, (j : Int)⟩], by omega, by go_num, HGN, ⟨by have := HOL.out; rw [List.length_append, List.length_singleton]; omega⟩, ⟨pw_below_grown (below_alloc HB3.out _) _ (below_alloc HB3.out _).size HG1.out (fun q e => by have := HNE.out q e.symm; omega)⟩, ⟨blk_grown (blk_alloc HS3.out _) HG1.out (fun e => by have := HNE.out _ e; omega)⟩, ⟨by have h_ := HR1n.out; rw [List.length_append, List.length_singleton] at h_; exact h_⟩⟩
          · have hpf : rpc_Of_pair (⟨x0, x1, x2, x3, x4, x5, x6, x7⟩, oc) (⟨y0, y1, y2, y3, y4, y5, y6, y7⟩, os) = false := by simpa using hp
            have HGN := Aside0.mk (HE.out hpf)
            clear hp HE HG
            unfold rpc_Of_pair at hpf
            have hfin : Aside0 (out.length ≤ j + 1) := ⟨by have := HOL.out; omega⟩
            cases os with
            | false =>
              clear hpf
              go_wp2_with (fail)
              go_roundg (gk - 1)
              case measure => omega
              case rel => exact ⟨j + 1, out, by omega, by go_num, HGN, hfin, ⟨below_alloc HB3.out _⟩, ⟨blk_alloc HS3.out _⟩, ⟨Kd.R_alloc HO3.out _⟩⟩
            | true =>
              cases oc with
              | false =>
                clear hpf
                go_wp2_with (fail)
                go_roundg (gk - 1)
                case measure => omega
                case rel => exact ⟨j + 1, out, by omega, by go_num, HGN, hfin, ⟨below_alloc HB3.out _⟩, ⟨blk_alloc HS3.out _⟩, ⟨Kd.R_alloc HO3.out _⟩⟩
              | true =>
                cases h3 : (y3 == 2) with
                | false =>
                  clear hpf
                  go_wp2_with (fail)
                  go_roundg (gk - 1)
                  case measure => omega
                  case rel => exact ⟨j + 1, out, by omega, by go_num, HGN, hfin, ⟨below_alloc HB3.out _⟩, ⟨blk_alloc HS3.out _⟩, ⟨Kd.R_alloc HO3.out _⟩⟩
                | true =>
                  have h4 : (x3 == 1) = false := by simpa only [h3, Bool.true_and] using hpf
                  clear hpf
                  go_wp2_with (fail)
                  go_roundg (gk - 1)
                  case measure => omega
                  case rel => exact ⟨j + 1, out, by omega, by go_num, HGN, hfin, ⟨below_alloc HB3.out _⟩, ⟨blk_alloc HS3.out _⟩, ⟨Kd.R_alloc HO3.out _⟩⟩
        · have hltz2 : ¬ (j : Int) < (l1.length : Int) := by omega
          have hg := HG.out
          rw [List.drop_of_length_le (by omega)] at hg
          have he := Option.some.inj (show some out = some r from hg)
          subst he
          clear hg HG
          go_wp2_with (fail)
          go_ret
          exact ⟨_, rfl, Kd.R_lower HO.out (by omega), HBr.out⟩


/-! ### rpc_Gaps: function 35 -/
def rpc_Gaps.f (k : Nat) (l0 : List S37) (a1_0 a1_1 : Int) : Option (Int × Int × Bool) :=
  (rpc_finder_at k l0 a1_0).bind fun c => (rpc_finder_at k l0 a1_1).bind fun s => if c.2 = true then (if s.2 = true then some (wrap64 (s.1.f6 - c.1.f6), wrap64 (wrap64 (c.1.f7 - s.1.f7) - wrap64 (s.1.f6 - c.1.f6)), true) else some (0, 0, false)) else some (0, 0, false)
theorem rpc_Gaps.mono : ∀ a0 a1 a2 k, LeO (rpc_Gaps.f k a0 a1 a2) (rpc_Gaps.f (k + 1) a0 a1 a2) := by
  intro a0 a1 a2 k
  exact LeO.bind (rpc_finder_at_mono _ _ _) (fun _ => LeO.bind (rpc_finder_at_mono _ _ _) (fun _ => LeO.refl _))
set_option maxHeartbeats 8000000 in
set_option maxRecDepth 100000 in
theorem rpc_Gaps.calls (k : Nat) (A0 : Option Addr) (c0 : Nat) (l0 : List S37) (a1_0 a1_1 : Int) (r1 r2 : Int) (r3 : Bool) (w : World) (hr0 : Kd.C k37 w A0 l0.length l0) (hc0 : l0.length ≤ c0) (h : rpc_Gaps.f k l0 a1_0 a1_1 = some (r1, r2, r3)) :
    Calls Try.prog 35 #[.slice A0 l0.length c0, .agg #[.int .i64 a1_0, .int .i64 a1_1]] w fun e w' => e = .returned (.tuple #[.int .i64 r1, .int .i64 r2, .bool r3]) ∧ Below w.heap.size w w' := by
  have hu_ := Try.underlying37
  have hup_ := Try.underlying46
  obtain ⟨⟨c, oc⟩, hc, h⟩ := Option.bind_eq_some_iff.mp h
  obtain ⟨⟨s, os⟩, hs, h⟩ := Option.bind_eq_some_iff.mp h
  have HR := Aside0.mk hr0
  have HCC := Aside0.mk hc
  have HSS := Aside0.mk hs
  have HH := Aside0.mk h
  clear hr0 hc hs h
  obtain ⟨x0, x1, x2, x3, x4, x5, x6, x7⟩ := c
  obtain ⟨y0, y1, y2, y3, y4, y5, y6, y7⟩ := s
  go_enter Try.func35, Try.ntmps35
  go_wp2_with (first
    | (go_at_call 44; refine (rpc_finder.calls A0 c0 l0.length _).mono ?_; rintro e w1 ⟨rfl, rfl⟩))
  have HB1 := Aside0.mk (below_alloc (below_alloc (Below.refl w.heap.size w) (.cells #[.int .i64 a1_0, .int .i64 a1_1] 46 (0, 0))) (.cells #[.slice A0 l0.length c0] 22 (0, 0)))
  refine (rpc_finder_at_calls k A0 c0 l0 (w.heap.size + 1) a1_0 _ oc _ (by have h_ := blk_new (w.alloc (.cells #[.int .i64 a1_0, .int .i64 a1_1] 46 (0, 0))) (.cells #[.slice A0 l0.length c0] 22 (0, 0)); simpa using h_) (Kd.C_below HR.out HB1.out) HCC.out).mono ?_
  rintro e w2 ⟨rfl, hb2⟩
  have HB2 := Aside0.mk (below_step HB1.out hb2)
  have HP := Aside0.mk (show w2.heap[w.heap.size]? = some (.cells #[.int .i64 a1_0, .int .i64 a1_1] 46 (0, 0)) from blk_below (blk_alloc (blk_new _ _) _) hb2)
  have HS := Aside0.mk (show w2.heap[w.heap.size + 1]? = some (.cells #[.slice A0 l0.length c0] 22 (0, 0)) from blk_below (by have h_ := blk_new (w.alloc (.cells #[.int .i64 a1_0, .int .i64 a1_1] 46 (0, 0))) (.cells #[.slice A0 l0.length c0] 22 (0, 0)); simpa using h_) hb2)
  clear hb2
  have hcp : ∀ o : Obj, (w2.alloc o).cell? ⟨w.heap.size, 1, none⟩ = some (.int .i64 a1_1) := fun o => (blk_cell (blk_alloc HP.out o) 1).trans rfl
  go_wp2_with (fail)
  refine (rpc_finder_at_calls k A0 c0 l0 (w.heap.size + 1) a1_1 _ os _ (blk_alloc HS.out _) (Kd.C_below HR.out (below_alloc HB2.out _)) HSS.out).mono ?_
  rintro e w3 ⟨rfl, hb3⟩
  have HB3 := Aside0.mk (below_step (below_alloc HB2.out _) hb3)
  have HV := Aside0.mk (show w3.heap[w2.heap.size]? = some (.cells #[.int .u64 x0, .int .u64 x1, .int .u64 x2, .int .u8 x3, .string x4, .string x5, .int .i64 x6, .int .i64 x7] 37 (0, 0)) from blk_below (blk_new _ _) hb3)
  clear hb3 hcp
  have hc6 : ∀ o : Obj, (w3.alloc o).cell? ⟨w2.heap.size, 6, none⟩ = some (.int .i64 x6) := fun o => (blk_cell (blk_alloc HV.out o) 6).trans rfl
  have hc7 : ∀ o : Obj, (w3.alloc o).cell? ⟨w2.heap.size, 7, none⟩ = some (.int .i64 x7) := fun o => (blk_cell (blk_alloc HV.out o) 7).trans rfl
  cases oc with
  | false =>
    have he := Option.some.inj (show some ((0 : Int), (0 : Int), false) = some (r1, r2, r3) from HH.out)
    obtain ⟨rfl, rfl, rfl⟩ := by simpa only [Prod.mk.injEq] using he
    clear he HH
    go_wp2_with (fail)
    exact bodyPost_ret (v := .tuple #[.int .i64 0, .int .i64 0, .bool false]) (by simp [results, Try.results35, go_sem]) rfl ⟨rfl, below_alloc HB3.out _⟩
  | true =>
    cases os with
    | false =>
      have he := Option.some.inj (show some ((0 : Int), (0 : Int), false) = some (r1, r2, r3) from HH.out)
      obtain ⟨rfl, rfl, rfl⟩ := by simpa only [Prod.mk.injEq] using he
      clear he HH
      go_wp2_with (fail)
      exact bodyPost_ret (v := .tuple #[.int .i64 0, .int .i64 0, .bool false]) (by simp [results, Try.results35, go_sem]) rfl ⟨rfl, below_alloc HB3.out _⟩
    | true =>
      have he := Option.some.inj (show some (wrap64 (y6 - x6), wrap64 (wrap64 (x7 - y7) - wrap64 (y6 - x6)), true) = some (r1, r2, r3) from HH.out)
      obtain ⟨rfl, rfl, rfl⟩ := by simpa only [Prod.mk.injEq] using he
      clear he HH
      go_wp2_with (fail)
      go_quiet (fail)
      go_wp2_with (fail)
      exact bodyPost_ret (v := .tuple #[.int .i64 (wrap64 (y6 - x6)), .int .i64 (wrap64 (wrap64 (x7 - y7) - wrap64 (y6 - x6))), .bool true]) (by simp [results, Try.results35, go_sem]) rfl ⟨rfl, pw_below_drewN (below_alloc HB3.out _) _⟩


/-! ### merkhetlaw12_fixed: function 31 -/
def merkhetlaw12_fixed.f (k : Nat)  : Option (Bool) := (some (([(⟨1, 1, 0, 1, (⟨#[97]⟩ : ByteArray), (⟨#[98]⟩ : ByteArray), 5, 15⟩ : S37), (⟨1, 2, 1, 2, (⟨#[99]⟩ : ByteArray), (⟨#[98]⟩ : ByteArray), 8, 4⟩ : S37)] : List (S37)) : List (S37))).bind fun y107 => ((rpc_Of.f k y107 (([(-1), 0] : List Int))).bind fun t113 => ((rpc_Gaps.f k y107 0 1).bind fun bt116 => (if (t113.length : Int) = 1 then (if 0 < (t113.length : Int) then (if (((rd_T46 t113 0).f0) == 0 && (((rd_T46 t113 0).f1) == 1)) = true then (if bt116.2.2 = true then (if bt116.1 = 3 then (some (bt116.2.1 == 8)) else (some false)) else (some false)) else (some false)) else (none)) else (some false))))
theorem merkhetlaw12_fixed.mono : ∀ k, LeO (merkhetlaw12_fixed.f k ) (merkhetlaw12_fixed.f (k + 1) ) := by
  intro  k
  unfold merkhetlaw12_fixed.f
  repeat' first
      | (with_reducible exact rpc_Gaps.mono _ _ _ _)
      | (with_reducible exact rpc_Of.mono _ _ _)
      | (with_reducible exact LeO.refl _)
      | (with_reducible exact LeO.none _)
      | (with_reducible refine LeO.ite ?_ ?_)
      | (with_reducible refine LeO.bind ?_ (fun _ => ?_))
      | exact rpc_Gaps.mono _ _ _ _
      | exact rpc_Of.mono _ _ _
      | exact LeO.none _
      | refine LeO.ite ?_ ?_
      | refine LeO.bind ?_ (fun _ => ?_)
set_option maxHeartbeats 8000000 in
set_option maxRecDepth 100000 in
theorem merkhetlaw12_fixed.calls (k : Nat)  (r : Bool) (w : World) (h : merkhetlaw12_fixed.f k  = some r) :
    Calls Try.prog 31 #[] w fun e w' => e = .returned (.bool r) ∧ Below w.heap.size w w' := by
  have hu37 := Try.underlying37
  have hu46 := Try.underlying46
  have HB := Aside0.mk (Below.refl w.heap.size w)
  have H : ((some (([(⟨1, 1, 0, 1, (⟨#[97]⟩ : ByteArray), (⟨#[98]⟩ : ByteArray), 5, 15⟩ : S37), (⟨1, 2, 1, 2, (⟨#[99]⟩ : ByteArray), (⟨#[98]⟩ : ByteArray), 8, 4⟩ : S37)] : List (S37)) : List (S37))).bind fun y107 => ((rpc_Of.f k y107 (([(-1), 0] : List Int))).bind fun t113 => ((rpc_Gaps.f k y107 0 1).bind fun bt116 => (if (t113.length : Int) = 1 then (if 0 < (t113.length : Int) then (if (((rd_T46 t113 0).f0) == 0 && (((rd_T46 t113 0).f1) == 1)) = true then (if bt116.2.2 = true then (if bt116.1 = 3 then (some (bt116.2.1 == 8)) else (some false)) else (some false)) else (some false)) else (none)) else (some false))))) = some r := h
  clear h
  obtain ⟨y107, hy107⟩ : ∃ y_ : List (S37), y_ = (([(⟨1, 1, 0, 1, (⟨#[97]⟩ : ByteArray), (⟨#[98]⟩ : ByteArray), 5, 15⟩ : S37), (⟨1, 2, 1, 2, (⟨#[99]⟩ : ByteArray), (⟨#[98]⟩ : ByteArray), 8, 4⟩ : S37)] : List (S37))) := ⟨_, rfl⟩
  replace H : ((rpc_Of.f k y107 (([(-1), 0] : List Int))).bind fun t113 => ((rpc_Gaps.f k y107 0 1).bind fun bt116 => (if (t113.length : Int) = 1 then (if 0 < (t113.length : Int) then (if (((rd_T46 t113 0).f0) == 0 && (((rd_T46 t113 0).f1) == 1)) = true then (if bt116.2.2 = true then (if bt116.1 = 3 then (some (bt116.2.1 == 8)) else (some false)) else (some false)) else (some false)) else (none)) else (some false)))) = some r := by first | (rw [hy107]; with_reducible exact H) | (have H2_ := (Option.bind_some _ _).symm.trans H; rw [hy107]; with_reducible exact H2_) | (have H2_ := (Option.bind_some _ _).symm.trans H; with_reducible exact H2_) | with_reducible exact H | (rw [hy107]; exact H) | exact H
  have Ny107 := Aside0.mk hy107
  clear hy107
  obtain ⟨y110, hy110⟩ : ∃ y_ : List Int, y_ = (([(-1), 0] : List Int)) := ⟨_, rfl⟩
  replace H : ((rpc_Of.f k y107 y110).bind fun t113 => ((rpc_Gaps.f k y107 0 1).bind fun bt116 => (if (t113.length : Int) = 1 then (if 0 < (t113.length : Int) then (if (((rd_T46 t113 0).f0) == 0 && (((rd_T46 t113 0).f1) == 1)) = true then (if bt116.2.2 = true then (if bt116.1 = 3 then (some (bt116.2.1 == 8)) else (some false)) else (some false)) else (some false)) else (none)) else (some false)))) = some r := by first | (rw [hy110]; with_reducible exact H) | (have H2_ := (Option.bind_some _ _).symm.trans H; rw [hy110]; with_reducible exact H2_) | (have H2_ := (Option.bind_some _ _).symm.trans H; with_reducible exact H2_) | with_reducible exact H | (rw [hy110]; exact H) | exact H
  have Ny110 := Aside0.mk hy110
  clear hy110
  replace H := Option.bind_eq_some_iff.mp H
  obtain ⟨t113, A10, H⟩ := H
  replace H : ((rpc_Gaps.f k y107 0 1).bind fun bt116 => (if (t113.length : Int) = 1 then (if 0 < (t113.length : Int) then (if (((rd_T46 t113 0).f0) == 0 && (((rd_T46 t113 0).f1) == 1)) = true then (if bt116.2.2 = true then (if bt116.1 = 3 then (some (bt116.2.1 == 8)) else (some false)) else (some false)) else (some false)) else (none)) else (some false))) = some r := H
  have A1 := Aside0.mk A10
  clear A10
  replace H := Option.bind_eq_some_iff.mp H
  obtain ⟨⟨t116, t117, t118⟩, A20, H⟩ := H
  replace H : (if (t113.length : Int) = 1 then (if 0 < (t113.length : Int) then (if (((rd_T46 t113 0).f0) == 0 && (((rd_T46 t113 0).f1) == 1)) = true then (if t118 = true then (if t116 = 3 then (some (t117 == 8)) else (some false)) else (some false)) else (some false)) else (none)) else (some false)) = some r := H
  have A2 := Aside0.mk A20
  clear A20
  by_cases c3 : (t113.length : Int) = 1
  · rw [if_pos c3] at H
    have c3b0 : ((t113.length : Int) == 1) = true := beq_iff_eq.mpr c3
    have c3b1 : ((t113.length : Int) != 1) = false := bne_eq_false_iff_eq.mpr c3
    clear c3
    by_cases c4 : 0 < (t113.length : Int)
    · rw [if_pos c4] at H
      have c4b0 : decide (0 < (t113.length : Int)) = true := decide_eq_true c4
      have c4b1 : decide (0 < t113.length) = true := decide_eq_true (by omega)
      clear c4
      by_cases c5 : (((rd_T46 t113 0).f0) == 0 && (((rd_T46 t113 0).f1) == 1)) = true
      · rw [if_pos c5] at H
        have c5b0 : (((rd_T46 t113 0).f0) == 0 && (((rd_T46 t113 0).f1) == 1)) = true := c5
        (try (have c5b1 : decide (((rd_T46 t113 0).f0) = 0 && (((rd_T46 t113 0).f1) == 1)) = true := by simpa using c5))
        (try (have c5b2 : (((rd_T46 t113 0).f0) == 0 && (((rd_T46 t113 0).f1) == 1)) = true := by simpa using c5))
        clear c5
        by_cases c6 : t118 = true
        · subst c6
          have H1 : (if t116 = 3 then (some (t117 == 8)) else (some false)) = some r := by rw [if_pos rfl] at H; exact H
          clear H
          have H := H1
          clear H1
          by_cases c7 : t116 = 3
          · rw [if_pos c7] at H
            have c7b0 : (t116 == 3) = true := beq_iff_eq.mpr c7
            have c7b1 : (t116 != 3) = false := bne_eq_false_iff_eq.mpr c7
            clear c7
            obtain rfl := Option.some.inj H
            go_enter Try.func31, Try.ntmps31
            go_wp2_with (first | ((with_reducible refine gate_dst (N := 8) rfl ?_); refine Kd.R_lit k37 _ 37 ?hg (N := 8) ?hd (xs := ([(⟨1, 1, 0, 1, (⟨#[97]⟩ : ByteArray), (⟨#[98]⟩ : ByteArray), 5, 15⟩ : S37), (⟨1, 2, 1, 2, (⟨#[99]⟩ : ByteArray), (⟨#[98]⟩ : ByteArray), 8, 4⟩ : S37)] : List (S37))) (inner := [.int .u64 1, .int .u64 1, .int .u64 0, .int .u8 1, .string (⟨#[97]⟩ : ByteArray), .string (⟨#[98]⟩ : ByteArray), .int .i64 5, .int .i64 15, .int .u64 1, .int .u64 2, .int .u64 1, .int .u8 2, .string (⟨#[99]⟩ : ByteArray), .string (⟨#[98]⟩ : ByteArray), .int .i64 8, .int .i64 4]) (ok := fun _ => True) (okp := fun _ => True) ?hr ?hp (fun _ hk => hk) trivial (Below.refl _ _) (Nat.le_refl _) (by simp) ?_; (case hd => rfl); (case hg => rfl); (case hr => first | (go_simp; done) | (go_simp; rfl)); (case hp => exact (Reps.c8 (show Kd.M k37 _ _ _ (⟨1, 1, 0, 1, (⟨#[97]⟩ : ByteArray), (⟨#[98]⟩ : ByteArray), 5, 15⟩ : S37) [.int .u64 1, .int .u64 1, .int .u64 0, .int .u8 1, .string (⟨#[97]⟩ : ByteArray), .string (⟨#[98]⟩ : ByteArray), .int .i64 5, .int .i64 15] from (k37_mkM _ _ _ (⟨1, 1, 0, 1, (⟨#[97]⟩ : ByteArray), (⟨#[98]⟩ : ByteArray), 5, 15⟩ : S37) )) (Reps.c8 (show Kd.M k37 _ _ _ (⟨1, 2, 1, 2, (⟨#[99]⟩ : ByteArray), (⟨#[98]⟩ : ByteArray), 8, 4⟩ : S37) [.int .u64 1, .int .u64 2, .int .u64 1, .int .u8 2, .string (⟨#[99]⟩ : ByteArray), .string (⟨#[98]⟩ : ByteArray), .int .i64 8, .int .i64 4] from (k37_mkM _ _ _ (⟨1, 2, 1, 2, (⟨#[99]⟩ : ByteArray), (⟨#[98]⟩ : ByteArray), 8, 4⟩ : S37) )) (Reps.none _ _)))); intro v108 w8 ho9 hb hg_ hnew_; clear hg_ hnew_; (first | rw [← Ny107.out] at ho9 | (simp only [Int.reduceToNat] at ho9; rw [← Ny107.out] at ho9)); have n0_ := Aside0.mk (Kd.R_lower ho9 (below_size (by repeat (first | (with_reducible first | exact HB.out | apply below_alloc | apply pw_below_drewN | apply below_drew1) | exact HB.out)))); have n1_ := Aside0.mk (below_step (by repeat (first | (with_reducible first | exact HB.out | apply below_alloc | apply pw_below_drewN | apply below_drew1) | exact HB.out)) hb); clear HB; have HO109 := n0_; have HB := n1_; clear n0_ n1_; clear hb ho9) | ((with_reducible refine gate_dst (N := 10) rfl ?_); refine Kd.R_lit (Kd.int .i64) _ 3 ?hg (N := 10) ?hd (xs := ([(-1), 0] : List Int)) (inner := [.int .i64 (-1), .int .i64 0]) (ok := fun _ => True) (okp := fun _ => True) ?hr ?hp (fun _ hk => hk) trivial (Below.refl _ _) (Nat.le_refl _) (by simp) ?_; (case hd => rfl); (case hg => rfl); (case hr => first | (go_simp; done) | (go_simp; rfl)); (case hp => exact (Reps.one (show Kd.M (Kd.int .i64) _ _ _ (-1) [.int .i64 (-1)] from rfl) (Reps.one (show Kd.M (Kd.int .i64) _ _ _ 0 [.int .i64 0] from rfl) (Reps.none _ _)))); intro v111 w10 ho11 hb hg_ hnew_; clear hg_ hnew_; (first | rw [← Ny110.out] at ho11 | (simp only [Int.reduceToNat] at ho11; rw [← Ny110.out] at ho11)); have n0_ := Aside0.mk (Kd.R_below (by (with_reducible repeat (first | apply Kd.R_alloc | apply Kd.R_drewN | apply Kd.R_drew)); exact HO109.out) hb); have n1_ := Aside0.mk (Kd.R_lower ho11 (below_size (by repeat (first | (with_reducible first | exact HB.out | apply below_alloc | apply pw_below_drewN | apply below_drew1) | exact HB.out)))); have n2_ := Aside0.mk (below_step (by repeat (first | (with_reducible first | exact HB.out | apply below_alloc | apply pw_below_drewN | apply below_drew1) | exact HB.out)) hb); clear HO109; clear HB; have HO109 := n0_; have HO112 := n1_; have HB := n2_; clear n0_ n1_ n2_; clear hb ho11; obtain ⟨Ao12, co12, eo12⟩ := Kd.R_slice HO109.out; subst eo12; obtain ⟨Ao13, co13, eo13⟩ := Kd.R_slice HO112.out; subst eo13) | ((with_reducible refine gate_callee (f := 33) rfl ?_); refine goesL_ (some 11) rfl rfl Try.func33 (by kernel_rfl) rfl #[.slice Ao12 y107.length co12, .slice Ao13 y110.length co13] rfl (by (try simp only [List.map_toArray, List.map_cons, List.map_nil]); first | done | rfl | (simp only [List.length_drop, List.length_take]; rfl)) ?_; (with_reducible refine (rpc_Of.calls k _ _ y107 _ _ y110 t113 _ ?side1 ?side2 ?side3 ?side4 A1.out).mono ?_); (case side1 => repeat (first | exact (Kd.R_reads' HO109.out).2.2 | (with_reducible refine Kd.C_alloc ?_ _) | (with_reducible refine Kd.C_drewN ?_ _) | (with_reducible refine Kd.C_drew ?_))); (case side2 => exact (Kd.R_reads' HO109.out).2.1); (case side3 => repeat (first | exact (Kd.R_reads' HO112.out).2.2 | (with_reducible refine Kd.C_alloc ?_ _) | (with_reducible refine Kd.C_drewN ?_ _) | (with_reducible refine Kd.C_drew ?_))); (case side4 => exact (Kd.R_reads' HO112.out).2.1); rintro e w14 ⟨v114, rfl, ho0, hb⟩; refine ⟨_, rfl, ?_⟩; have n0_ := Aside0.mk (Kd.R_below (by (with_reducible repeat (first | apply Kd.R_alloc | apply Kd.R_drewN | apply Kd.R_drew)); exact HO109.out) hb); have n1_ := Aside0.mk (Kd.R_below (by (with_reducible repeat (first | apply Kd.R_alloc | apply Kd.R_drewN | apply Kd.R_drew)); exact HO112.out) hb); have n2_ := Aside0.mk (Kd.R_lower ho0 (below_size (by repeat (first | (with_reducible first | exact HB.out | apply below_alloc | apply pw_below_drewN | apply below_drew1) | exact HB.out)))); have n3_ := Aside0.mk (below_step (by repeat (first | (with_reducible first | exact HB.out | apply below_alloc | apply pw_below_drewN | apply below_drew1) | exact HB.out)) hb); clear HO109; clear HO112; clear HB; have HO109 := n0_; have HO112 := n1_; have HO115 := n2_; have HB := n3_; clear n0_ n1_ n2_ n3_; (try clear hb); (try clear hb2); (try clear hk); (try clear hi); (try clear ho0)) | ((with_reducible refine gate_callee (f := 35) rfl ?_); refine goesL_ (some 15) rfl rfl Try.func35 (by kernel_rfl) rfl #[.slice Ao12 y107.length co12, .agg #[.int .i64 0, .int .i64 1]] rfl (by (try simp only [List.map_toArray, List.map_cons, List.map_nil]); first | done | rfl | (simp only [List.length_drop, List.length_take]; rfl)) ?_; (with_reducible refine (rpc_Gaps.calls k _ _ y107 0 1 t116 t117 true _ ?side1 ?side2 A2.out).mono ?_); (case side1 => repeat (first | exact (Kd.R_reads' HO109.out).2.2 | (with_reducible refine Kd.C_alloc ?_ _) | (with_reducible refine Kd.C_drewN ?_ _) | (with_reducible refine Kd.C_drew ?_))); (case side2 => exact (Kd.R_reads' HO109.out).2.1); rintro e w15 ⟨rfl, hb⟩; refine ⟨_, rfl, ?_⟩; have n0_ := Aside0.mk (Kd.R_below (by (with_reducible repeat (first | apply Kd.R_alloc | apply Kd.R_drewN | apply Kd.R_drew)); exact HO109.out) hb); have n1_ := Aside0.mk (Kd.R_below (by (with_reducible repeat (first | apply Kd.R_alloc | apply Kd.R_drewN | apply Kd.R_drew)); exact HO112.out) hb); have n2_ := Aside0.mk (Kd.R_below (by (with_reducible repeat (first | apply Kd.R_alloc | apply Kd.R_drewN | apply Kd.R_drew)); exact HO115.out) hb); have n3_ := Aside0.mk (below_step (by repeat (first | (with_reducible first | exact HB.out | apply below_alloc | apply pw_below_drewN | apply below_drew1) | exact HB.out)) hb); clear HO109; clear HO112; clear HO115; clear HB; have HO109 := n0_; have HO112 := n1_; have HO115 := n2_; have HB := n3_; clear n0_ n1_ n2_ n3_; (try clear hb); (try clear hb2); (try clear hk); (try clear hi); obtain ⟨Ao16, co16, eo16⟩ := Kd.R_slice HO115.out; subst eo16; have p119 : 0 ≤ (0 : Int) := (by omega); have q119 : 0 < (t113.length : Int) := of_decide_eq_true (by first | (with_reducible assumption) | assumption); obtain ⟨ad119, e119, hx119_0, hx119_1⟩ := at_T46 (Kd.R_reads' HO115.out).2.2 0 p119 q119; cases e119; have qi119 : (0 < t113.length) = True := eq_true (by omega); (try rw [show ((0 : Int)).toNat = 0 from rfl] at hx119_0); (try rw [show 0 * 2 = 0 from rfl] at hx119_0); (try rw [Addr.add_zero'] at hx119_0); (try rw [show ((0 : Int)).toNat = 0 from rfl] at hx119_1); (try rw [show 0 * 2 = 0 from rfl] at hx119_1); (try rw [Addr.add_zero'] at hx119_1); replace p119 := eq_true p119; replace q119 := eq_true q119))
            go_ret
            exact ⟨by first | rfl | (simp [errW_none, errW_some] <;> rfl) | (simp [*, errW_none, errW_some] <;> rfl), by repeat (first | (with_reducible first | exact HB.out | apply below_alloc | apply pw_below_drewN | apply below_drew1) | exact HB.out)⟩
          · rw [if_neg c7] at H
            have c7b0 : (t116 == 3) = false := beq_eq_false_iff_ne.mpr c7
            have c7b1 : (t116 != 3) = true := bne_iff_ne.mpr c7
            obtain rfl := Option.some.inj H
            go_enter Try.func31, Try.ntmps31
            go_wp2_with (first | ((with_reducible refine gate_dst (N := 8) rfl ?_); refine Kd.R_lit k37 _ 37 ?hg (N := 8) ?hd (xs := ([(⟨1, 1, 0, 1, (⟨#[97]⟩ : ByteArray), (⟨#[98]⟩ : ByteArray), 5, 15⟩ : S37), (⟨1, 2, 1, 2, (⟨#[99]⟩ : ByteArray), (⟨#[98]⟩ : ByteArray), 8, 4⟩ : S37)] : List (S37))) (inner := [.int .u64 1, .int .u64 1, .int .u64 0, .int .u8 1, .string (⟨#[97]⟩ : ByteArray), .string (⟨#[98]⟩ : ByteArray), .int .i64 5, .int .i64 15, .int .u64 1, .int .u64 2, .int .u64 1, .int .u8 2, .string (⟨#[99]⟩ : ByteArray), .string (⟨#[98]⟩ : ByteArray), .int .i64 8, .int .i64 4]) (ok := fun _ => True) (okp := fun _ => True) ?hr ?hp (fun _ hk => hk) trivial (Below.refl _ _) (Nat.le_refl _) (by simp) ?_; (case hd => rfl); (case hg => rfl); (case hr => first | (go_simp; done) | (go_simp; rfl)); (case hp => exact (Reps.c8 (show Kd.M k37 _ _ _ (⟨1, 1, 0, 1, (⟨#[97]⟩ : ByteArray), (⟨#[98]⟩ : ByteArray), 5, 15⟩ : S37) [.int .u64 1, .int .u64 1, .int .u64 0, .int .u8 1, .string (⟨#[97]⟩ : ByteArray), .string (⟨#[98]⟩ : ByteArray), .int .i64 5, .int .i64 15] from (k37_mkM _ _ _ (⟨1, 1, 0, 1, (⟨#[97]⟩ : ByteArray), (⟨#[98]⟩ : ByteArray), 5, 15⟩ : S37) )) (Reps.c8 (show Kd.M k37 _ _ _ (⟨1, 2, 1, 2, (⟨#[99]⟩ : ByteArray), (⟨#[98]⟩ : ByteArray), 8, 4⟩ : S37) [.int .u64 1, .int .u64 2, .int .u64 1, .int .u8 2, .string (⟨#[99]⟩ : ByteArray), .string (⟨#[98]⟩ : ByteArray), .int .i64 8, .int .i64 4] from (k37_mkM _ _ _ (⟨1, 2, 1, 2, (⟨#[99]⟩ : ByteArray), (⟨#[98]⟩ : ByteArray), 8, 4⟩ : S37) )) (Reps.none _ _)))); intro v108 w17 ho18 hb hg_ hnew_; clear hg_ hnew_; (first | rw [← Ny107.out] at ho18 | (simp only [Int.reduceToNat] at ho18; rw [← Ny107.out] at ho18)); have n0_ := Aside0.mk (Kd.R_lower ho18 (below_size (by repeat (first | (with_reducible first | exact HB.out | apply below_alloc | apply pw_below_drewN | apply below_drew1) | exact HB.out)))); have n1_ := Aside0.mk (below_step (by repeat (first | (with_reducible first | exact HB.out | apply below_alloc | apply pw_below_drewN | apply below_drew1) | exact HB.out)) hb); clear HB; have HO109 := n0_; have HB := n1_; clear n0_ n1_; clear hb ho18) | ((with_reducible refine gate_dst (N := 10) rfl ?_); refine Kd.R_lit (Kd.int .i64) _ 3 ?hg (N := 10) ?hd (xs := ([(-1), 0] : List Int)) (inner := [.int .i64 (-1), .int .i64 0]) (ok := fun _ => True) (okp := fun _ => True) ?hr ?hp (fun _ hk => hk) trivial (Below.refl _ _) (Nat.le_refl _) (by simp) ?_; (case hd => rfl); (case hg => rfl); (case hr => first | (go_simp; done) | (go_simp; rfl)); (case hp => exact (Reps.one (show Kd.M (Kd.int .i64) _ _ _ (-1) [.int .i64 (-1)] from rfl) (Reps.one (show Kd.M (Kd.int .i64) _ _ _ 0 [.int .i64 0] from rfl) (Reps.none _ _)))); intro v111 w19 ho20 hb hg_ hnew_; clear hg_ hnew_; (first | rw [← Ny110.out] at ho20 | (simp only [Int.reduceToNat] at ho20; rw [← Ny110.out] at ho20)); have n0_ := Aside0.mk (Kd.R_below (by (with_reducible repeat (first | apply Kd.R_alloc | apply Kd.R_drewN | apply Kd.R_drew)); exact HO109.out) hb); have n1_ := Aside0.mk (Kd.R_lower ho20 (below_size (by repeat (first | (with_reducible first | exact HB.out | apply below_alloc | apply pw_below_drewN | apply below_drew1) | exact HB.out)))); have n2_ := Aside0.mk (below_step (by repeat (first | (with_reducible first | exact HB.out | apply below_alloc | apply pw_below_drewN | apply below_drew1) | exact HB.out)) hb); clear HO109; clear HB; have HO109 := n0_; have HO112 := n1_; have HB := n2_; clear n0_ n1_ n2_; clear hb ho20; obtain ⟨Ao21, co21, eo21⟩ := Kd.R_slice HO109.out; subst eo21; obtain ⟨Ao22, co22, eo22⟩ := Kd.R_slice HO112.out; subst eo22) | ((with_reducible refine gate_callee (f := 33) rfl ?_); refine goesL_ (some 11) rfl rfl Try.func33 (by kernel_rfl) rfl #[.slice Ao21 y107.length co21, .slice Ao22 y110.length co22] rfl (by (try simp only [List.map_toArray, List.map_cons, List.map_nil]); first | done | rfl | (simp only [List.length_drop, List.length_take]; rfl)) ?_; (with_reducible refine (rpc_Of.calls k _ _ y107 _ _ y110 t113 _ ?side1 ?side2 ?side3 ?side4 A1.out).mono ?_); (case side1 => repeat (first | exact (Kd.R_reads' HO109.out).2.2 | (with_reducible refine Kd.C_alloc ?_ _) | (with_reducible refine Kd.C_drewN ?_ _) | (with_reducible refine Kd.C_drew ?_))); (case side2 => exact (Kd.R_reads' HO109.out).2.1); (case side3 => repeat (first | exact (Kd.R_reads' HO112.out).2.2 | (with_reducible refine Kd.C_alloc ?_ _) | (with_reducible refine Kd.C_drewN ?_ _) | (with_reducible refine Kd.C_drew ?_))); (case side4 => exact (Kd.R_reads' HO112.out).2.1); rintro e w23 ⟨v114, rfl, ho0, hb⟩; refine ⟨_, rfl, ?_⟩; have n0_ := Aside0.mk (Kd.R_below (by (with_reducible repeat (first | apply Kd.R_alloc | apply Kd.R_drewN | apply Kd.R_drew)); exact HO109.out) hb); have n1_ := Aside0.mk (Kd.R_below (by (with_reducible repeat (first | apply Kd.R_alloc | apply Kd.R_drewN | apply Kd.R_drew)); exact HO112.out) hb); have n2_ := Aside0.mk (Kd.R_lower ho0 (below_size (by repeat (first | (with_reducible first | exact HB.out | apply below_alloc | apply pw_below_drewN | apply below_drew1) | exact HB.out)))); have n3_ := Aside0.mk (below_step (by repeat (first | (with_reducible first | exact HB.out | apply below_alloc | apply pw_below_drewN | apply below_drew1) | exact HB.out)) hb); clear HO109; clear HO112; clear HB; have HO109 := n0_; have HO112 := n1_; have HO115 := n2_; have HB := n3_; clear n0_ n1_ n2_ n3_; (try clear hb); (try clear hb2); (try clear hk); (try clear hi); (try clear ho0)) | ((with_reducible refine gate_callee (f := 35) rfl ?_); refine goesL_ (some 15) rfl rfl Try.func35 (by kernel_rfl) rfl #[.slice Ao21 y107.length co21, .agg #[.int .i64 0, .int .i64 1]] rfl (by (try simp only [List.map_toArray, List.map_cons, List.map_nil]); first | done | rfl | (simp only [List.length_drop, List.length_take]; rfl)) ?_; (with_reducible refine (rpc_Gaps.calls k _ _ y107 0 1 t116 t117 true _ ?side1 ?side2 A2.out).mono ?_); (case side1 => repeat (first | exact (Kd.R_reads' HO109.out).2.2 | (with_reducible refine Kd.C_alloc ?_ _) | (with_reducible refine Kd.C_drewN ?_ _) | (with_reducible refine Kd.C_drew ?_))); (case side2 => exact (Kd.R_reads' HO109.out).2.1); rintro e w24 ⟨rfl, hb⟩; refine ⟨_, rfl, ?_⟩; have n0_ := Aside0.mk (Kd.R_below (by (with_reducible repeat (first | apply Kd.R_alloc | apply Kd.R_drewN | apply Kd.R_drew)); exact HO109.out) hb); have n1_ := Aside0.mk (Kd.R_below (by (with_reducible repeat (first | apply Kd.R_alloc | apply Kd.R_drewN | apply Kd.R_drew)); exact HO112.out) hb); have n2_ := Aside0.mk (Kd.R_below (by (with_reducible repeat (first | apply Kd.R_alloc | apply Kd.R_drewN | apply Kd.R_drew)); exact HO115.out) hb); have n3_ := Aside0.mk (below_step (by repeat (first | (with_reducible first | exact HB.out | apply below_alloc | apply pw_below_drewN | apply below_drew1) | exact HB.out)) hb); clear HO109; clear HO112; clear HO115; clear HB; have HO109 := n0_; have HO112 := n1_; have HO115 := n2_; have HB := n3_; clear n0_ n1_ n2_ n3_; (try clear hb); (try clear hb2); (try clear hk); (try clear hi); obtain ⟨Ao25, co25, eo25⟩ := Kd.R_slice HO115.out; subst eo25; have p119 : 0 ≤ (0 : Int) := (by omega); have q119 : 0 < (t113.length : Int) := of_decide_eq_true (by first | (with_reducible assumption) | assumption); obtain ⟨ad119, e119, hx119_0, hx119_1⟩ := at_T46 (Kd.R_reads' HO115.out).2.2 0 p119 q119; cases e119; have qi119 : (0 < t113.length) = True := eq_true (by omega); (try rw [show ((0 : Int)).toNat = 0 from rfl] at hx119_0); (try rw [show 0 * 2 = 0 from rfl] at hx119_0); (try rw [Addr.add_zero'] at hx119_0); (try rw [show ((0 : Int)).toNat = 0 from rfl] at hx119_1); (try rw [show 0 * 2 = 0 from rfl] at hx119_1); (try rw [Addr.add_zero'] at hx119_1); replace p119 := eq_true p119; replace q119 := eq_true q119))
            go_ret
            exact ⟨by first | rfl | (simp [errW_none, errW_some] <;> rfl) | (simp [*, errW_none, errW_some] <;> rfl), by repeat (first | (with_reducible first | exact HB.out | apply below_alloc | apply pw_below_drewN | apply below_drew1) | exact HB.out)⟩
        · replace c6 := Bool.eq_false_iff.mpr c6
          subst c6
          have H1 : (some false) = some r := by rw [if_neg (show ¬ (false = true) by decide)] at H; exact H
          clear H
          have H := H1
          clear H1
          obtain rfl := Option.some.inj H
          go_enter Try.func31, Try.ntmps31
          go_wp2_with (first | ((with_reducible refine gate_dst (N := 8) rfl ?_); refine Kd.R_lit k37 _ 37 ?hg (N := 8) ?hd (xs := ([(⟨1, 1, 0, 1, (⟨#[97]⟩ : ByteArray), (⟨#[98]⟩ : ByteArray), 5, 15⟩ : S37), (⟨1, 2, 1, 2, (⟨#[99]⟩ : ByteArray), (⟨#[98]⟩ : ByteArray), 8, 4⟩ : S37)] : List (S37))) (inner := [.int .u64 1, .int .u64 1, .int .u64 0, .int .u8 1, .string (⟨#[97]⟩ : ByteArray), .string (⟨#[98]⟩ : ByteArray), .int .i64 5, .int .i64 15, .int .u64 1, .int .u64 2, .int .u64 1, .int .u8 2, .string (⟨#[99]⟩ : ByteArray), .string (⟨#[98]⟩ : ByteArray), .int .i64 8, .int .i64 4]) (ok := fun _ => True) (okp := fun _ => True) ?hr ?hp (fun _ hk => hk) trivial (Below.refl _ _) (Nat.le_refl _) (by simp) ?_; (case hd => rfl); (case hg => rfl); (case hr => first | (go_simp; done) | (go_simp; rfl)); (case hp => exact (Reps.c8 (show Kd.M k37 _ _ _ (⟨1, 1, 0, 1, (⟨#[97]⟩ : ByteArray), (⟨#[98]⟩ : ByteArray), 5, 15⟩ : S37) [.int .u64 1, .int .u64 1, .int .u64 0, .int .u8 1, .string (⟨#[97]⟩ : ByteArray), .string (⟨#[98]⟩ : ByteArray), .int .i64 5, .int .i64 15] from (k37_mkM _ _ _ (⟨1, 1, 0, 1, (⟨#[97]⟩ : ByteArray), (⟨#[98]⟩ : ByteArray), 5, 15⟩ : S37) )) (Reps.c8 (show Kd.M k37 _ _ _ (⟨1, 2, 1, 2, (⟨#[99]⟩ : ByteArray), (⟨#[98]⟩ : ByteArray), 8, 4⟩ : S37) [.int .u64 1, .int .u64 2, .int .u64 1, .int .u8 2, .string (⟨#[99]⟩ : ByteArray), .string (⟨#[98]⟩ : ByteArray), .int .i64 8, .int .i64 4] from (k37_mkM _ _ _ (⟨1, 2, 1, 2, (⟨#[99]⟩ : ByteArray), (⟨#[98]⟩ : ByteArray), 8, 4⟩ : S37) )) (Reps.none _ _)))); intro v108 w26 ho27 hb hg_ hnew_; clear hg_ hnew_; (first | rw [← Ny107.out] at ho27 | (simp only [Int.reduceToNat] at ho27; rw [← Ny107.out] at ho27)); have n0_ := Aside0.mk (Kd.R_lower ho27 (below_size (by repeat (first | (with_reducible first | exact HB.out | apply below_alloc | apply pw_below_drewN | apply below_drew1) | exact HB.out)))); have n1_ := Aside0.mk (below_step (by repeat (first | (with_reducible first | exact HB.out | apply below_alloc | apply pw_below_drewN | apply below_drew1) | exact HB.out)) hb); clear HB; have HO109 := n0_; have HB := n1_; clear n0_ n1_; clear hb ho27) | ((with_reducible refine gate_dst (N := 10) rfl ?_); refine Kd.R_lit (Kd.int .i64) _ 3 ?hg (N := 10) ?hd (xs := ([(-1), 0] : List Int)) (inner := [.int .i64 (-1), .int .i64 0]) (ok := fun _ => True) (okp := fun _ => True) ?hr ?hp (fun _ hk => hk) trivial (Below.refl _ _) (Nat.le_refl _) (by simp) ?_; (case hd => rfl); (case hg => rfl); (case hr => first | (go_simp; done) | (go_simp; rfl)); (case hp => exact (Reps.one (show Kd.M (Kd.int .i64) _ _ _ (-1) [.int .i64 (-1)] from rfl) (Reps.one (show Kd.M (Kd.int .i64) _ _ _ 0 [.int .i64 0] from rfl) (Reps.none _ _)))); intro v111 w28 ho29 hb hg_ hnew_; clear hg_ hnew_; (first | rw [← Ny110.out] at ho29 | (simp only [Int.reduceToNat] at ho29; rw [← Ny110.out] at ho29)); have n0_ := Aside0.mk (Kd.R_below (by (with_reducible repeat (first | apply Kd.R_alloc | apply Kd.R_drewN | apply Kd.R_drew)); exact HO109.out) hb); have n1_ := Aside0.mk (Kd.R_lower ho29 (below_size (by repeat (first | (with_reducible first | exact HB.out | apply below_alloc | apply pw_below_drewN | apply below_drew1) | exact HB.out)))); have n2_ := Aside0.mk (below_step (by repeat (first | (with_reducible first | exact HB.out | apply below_alloc | apply pw_below_drewN | apply below_drew1) | exact HB.out)) hb); clear HO109; clear HB; have HO109 := n0_; have HO112 := n1_; have HB := n2_; clear n0_ n1_ n2_; clear hb ho29; obtain ⟨Ao30, co30, eo30⟩ := Kd.R_slice HO109.out; subst eo30; obtain ⟨Ao31, co31, eo31⟩ := Kd.R_slice HO112.out; subst eo31) | ((with_reducible refine gate_callee (f := 33) rfl ?_); refine goesL_ (some 11) rfl rfl Try.func33 (by kernel_rfl) rfl #[.slice Ao30 y107.length co30, .slice Ao31 y110.length co31] rfl (by (try simp only [List.map_toArray, List.map_cons, List.map_nil]); first | done | rfl | (simp only [List.length_drop, List.length_take]; rfl)) ?_; (with_reducible refine (rpc_Of.calls k _ _ y107 _ _ y110 t113 _ ?side1 ?side2 ?side3 ?side4 A1.out).mono ?_); (case side1 => repeat (first | exact (Kd.R_reads' HO109.out).2.2 | (with_reducible refine Kd.C_alloc ?_ _) | (with_reducible refine Kd.C_drewN ?_ _) | (with_reducible refine Kd.C_drew ?_))); (case side2 => exact (Kd.R_reads' HO109.out).2.1); (case side3 => repeat (first | exact (Kd.R_reads' HO112.out).2.2 | (with_reducible refine Kd.C_alloc ?_ _) | (with_reducible refine Kd.C_drewN ?_ _) | (with_reducible refine Kd.C_drew ?_))); (case side4 => exact (Kd.R_reads' HO112.out).2.1); rintro e w32 ⟨v114, rfl, ho0, hb⟩; refine ⟨_, rfl, ?_⟩; have n0_ := Aside0.mk (Kd.R_below (by (with_reducible repeat (first | apply Kd.R_alloc | apply Kd.R_drewN | apply Kd.R_drew)); exact HO109.out) hb); have n1_ := Aside0.mk (Kd.R_below (by (with_reducible repeat (first | apply Kd.R_alloc | apply Kd.R_drewN | apply Kd.R_drew)); exact HO112.out) hb); have n2_ := Aside0.mk (Kd.R_lower ho0 (below_size (by repeat (first | (with_reducible first | exact HB.out | apply below_alloc | apply pw_below_drewN | apply below_drew1) | exact HB.out)))); have n3_ := Aside0.mk (below_step (by repeat (first | (with_reducible first | exact HB.out | apply below_alloc | apply pw_below_drewN | apply below_drew1) | exact HB.out)) hb); clear HO109; clear HO112; clear HB; have HO109 := n0_; have HO112 := n1_; have HO115 := n2_; have HB := n3_; clear n0_ n1_ n2_ n3_; (try clear hb); (try clear hb2); (try clear hk); (try clear hi); (try clear ho0)) | ((with_reducible refine gate_callee (f := 35) rfl ?_); refine goesL_ (some 15) rfl rfl Try.func35 (by kernel_rfl) rfl #[.slice Ao30 y107.length co30, .agg #[.int .i64 0, .int .i64 1]] rfl (by (try simp only [List.map_toArray, List.map_cons, List.map_nil]); first | done | rfl | (simp only [List.length_drop, List.length_take]; rfl)) ?_; (with_reducible refine (rpc_Gaps.calls k _ _ y107 0 1 t116 t117 false _ ?side1 ?side2 A2.out).mono ?_); (case side1 => repeat (first | exact (Kd.R_reads' HO109.out).2.2 | (with_reducible refine Kd.C_alloc ?_ _) | (with_reducible refine Kd.C_drewN ?_ _) | (with_reducible refine Kd.C_drew ?_))); (case side2 => exact (Kd.R_reads' HO109.out).2.1); rintro e w33 ⟨rfl, hb⟩; refine ⟨_, rfl, ?_⟩; have n0_ := Aside0.mk (Kd.R_below (by (with_reducible repeat (first | apply Kd.R_alloc | apply Kd.R_drewN | apply Kd.R_drew)); exact HO109.out) hb); have n1_ := Aside0.mk (Kd.R_below (by (with_reducible repeat (first | apply Kd.R_alloc | apply Kd.R_drewN | apply Kd.R_drew)); exact HO112.out) hb); have n2_ := Aside0.mk (Kd.R_below (by (with_reducible repeat (first | apply Kd.R_alloc | apply Kd.R_drewN | apply Kd.R_drew)); exact HO115.out) hb); have n3_ := Aside0.mk (below_step (by repeat (first | (with_reducible first | exact HB.out | apply below_alloc | apply pw_below_drewN | apply below_drew1) | exact HB.out)) hb); clear HO109; clear HO112; clear HO115; clear HB; have HO109 := n0_; have HO112 := n1_; have HO115 := n2_; have HB := n3_; clear n0_ n1_ n2_ n3_; (try clear hb); (try clear hb2); (try clear hk); (try clear hi); obtain ⟨Ao34, co34, eo34⟩ := Kd.R_slice HO115.out; subst eo34; have p119 : 0 ≤ (0 : Int) := (by omega); have q119 : 0 < (t113.length : Int) := of_decide_eq_true (by first | (with_reducible assumption) | assumption); obtain ⟨ad119, e119, hx119_0, hx119_1⟩ := at_T46 (Kd.R_reads' HO115.out).2.2 0 p119 q119; cases e119; have qi119 : (0 < t113.length) = True := eq_true (by omega); (try rw [show ((0 : Int)).toNat = 0 from rfl] at hx119_0); (try rw [show 0 * 2 = 0 from rfl] at hx119_0); (try rw [Addr.add_zero'] at hx119_0); (try rw [show ((0 : Int)).toNat = 0 from rfl] at hx119_1); (try rw [show 0 * 2 = 0 from rfl] at hx119_1); (try rw [Addr.add_zero'] at hx119_1); replace p119 := eq_true p119; replace q119 := eq_true q119))
          go_ret
          exact ⟨by first | rfl | (simp [errW_none, errW_some] <;> rfl) | (simp [*, errW_none, errW_some] <;> rfl), by repeat (first | (with_reducible first | exact HB.out | apply below_alloc | apply pw_below_drewN | apply below_drew1) | exact HB.out)⟩
      · rw [if_neg c5] at H
        have c5b0 : (((rd_T46 t113 0).f0) == 0 && (((rd_T46 t113 0).f1) == 1)) = false := by simpa using c5
        (try (have c5b1 : decide (((rd_T46 t113 0).f0) = 0 && (((rd_T46 t113 0).f1) == 1)) = false := by simpa using c5))
        (try (have c5b2 : (((rd_T46 t113 0).f0) == 0 && (((rd_T46 t113 0).f1) == 1)) = false := by simpa using c5))
        (try (have c5b3 : ¬ (((rd_T46 t113 0).f0) = 0 && (((rd_T46 t113 0).f1) == 1)) := by simpa using c5))
        clear c5
        obtain rfl := Option.some.inj H
        go_enter Try.func31, Try.ntmps31
        go_wp2_with (first | ((with_reducible refine gate_dst (N := 8) rfl ?_); refine Kd.R_lit k37 _ 37 ?hg (N := 8) ?hd (xs := ([(⟨1, 1, 0, 1, (⟨#[97]⟩ : ByteArray), (⟨#[98]⟩ : ByteArray), 5, 15⟩ : S37), (⟨1, 2, 1, 2, (⟨#[99]⟩ : ByteArray), (⟨#[98]⟩ : ByteArray), 8, 4⟩ : S37)] : List (S37))) (inner := [.int .u64 1, .int .u64 1, .int .u64 0, .int .u8 1, .string (⟨#[97]⟩ : ByteArray), .string (⟨#[98]⟩ : ByteArray), .int .i64 5, .int .i64 15, .int .u64 1, .int .u64 2, .int .u64 1, .int .u8 2, .string (⟨#[99]⟩ : ByteArray), .string (⟨#[98]⟩ : ByteArray), .int .i64 8, .int .i64 4]) (ok := fun _ => True) (okp := fun _ => True) ?hr ?hp (fun _ hk => hk) trivial (Below.refl _ _) (Nat.le_refl _) (by simp) ?_; (case hd => rfl); (case hg => rfl); (case hr => first | (go_simp; done) | (go_simp; rfl)); (case hp => exact (Reps.c8 (show Kd.M k37 _ _ _ (⟨1, 1, 0, 1, (⟨#[97]⟩ : ByteArray), (⟨#[98]⟩ : ByteArray), 5, 15⟩ : S37) [.int .u64 1, .int .u64 1, .int .u64 0, .int .u8 1, .string (⟨#[97]⟩ : ByteArray), .string (⟨#[98]⟩ : ByteArray), .int .i64 5, .int .i64 15] from (k37_mkM _ _ _ (⟨1, 1, 0, 1, (⟨#[97]⟩ : ByteArray), (⟨#[98]⟩ : ByteArray), 5, 15⟩ : S37) )) (Reps.c8 (show Kd.M k37 _ _ _ (⟨1, 2, 1, 2, (⟨#[99]⟩ : ByteArray), (⟨#[98]⟩ : ByteArray), 8, 4⟩ : S37) [.int .u64 1, .int .u64 2, .int .u64 1, .int .u8 2, .string (⟨#[99]⟩ : ByteArray), .string (⟨#[98]⟩ : ByteArray), .int .i64 8, .int .i64 4] from (k37_mkM _ _ _ (⟨1, 2, 1, 2, (⟨#[99]⟩ : ByteArray), (⟨#[98]⟩ : ByteArray), 8, 4⟩ : S37) )) (Reps.none _ _)))); intro v108 w35 ho36 hb hg_ hnew_; clear hg_ hnew_; (first | rw [← Ny107.out] at ho36 | (simp only [Int.reduceToNat] at ho36; rw [← Ny107.out] at ho36)); have n0_ := Aside0.mk (Kd.R_lower ho36 (below_size (by repeat (first | (with_reducible first | exact HB.out | apply below_alloc | apply pw_below_drewN | apply below_drew1) | exact HB.out)))); have n1_ := Aside0.mk (below_step (by repeat (first | (with_reducible first | exact HB.out | apply below_alloc | apply pw_below_drewN | apply below_drew1) | exact HB.out)) hb); clear HB; have HO109 := n0_; have HB := n1_; clear n0_ n1_; clear hb ho36) | ((with_reducible refine gate_dst (N := 10) rfl ?_); refine Kd.R_lit (Kd.int .i64) _ 3 ?hg (N := 10) ?hd (xs := ([(-1), 0] : List Int)) (inner := [.int .i64 (-1), .int .i64 0]) (ok := fun _ => True) (okp := fun _ => True) ?hr ?hp (fun _ hk => hk) trivial (Below.refl _ _) (Nat.le_refl _) (by simp) ?_; (case hd => rfl); (case hg => rfl); (case hr => first | (go_simp; done) | (go_simp; rfl)); (case hp => exact (Reps.one (show Kd.M (Kd.int .i64) _ _ _ (-1) [.int .i64 (-1)] from rfl) (Reps.one (show Kd.M (Kd.int .i64) _ _ _ 0 [.int .i64 0] from rfl) (Reps.none _ _)))); intro v111 w37 ho38 hb hg_ hnew_; clear hg_ hnew_; (first | rw [← Ny110.out] at ho38 | (simp only [Int.reduceToNat] at ho38; rw [← Ny110.out] at ho38)); have n0_ := Aside0.mk (Kd.R_below (by (with_reducible repeat (first | apply Kd.R_alloc | apply Kd.R_drewN | apply Kd.R_drew)); exact HO109.out) hb); have n1_ := Aside0.mk (Kd.R_lower ho38 (below_size (by repeat (first | (with_reducible first | exact HB.out | apply below_alloc | apply pw_below_drewN | apply below_drew1) | exact HB.out)))); have n2_ := Aside0.mk (below_step (by repeat (first | (with_reducible first | exact HB.out | apply below_alloc | apply pw_below_drewN | apply below_drew1) | exact HB.out)) hb); clear HO109; clear HB; have HO109 := n0_; have HO112 := n1_; have HB := n2_; clear n0_ n1_ n2_; clear hb ho38; obtain ⟨Ao39, co39, eo39⟩ := Kd.R_slice HO109.out; subst eo39; obtain ⟨Ao40, co40, eo40⟩ := Kd.R_slice HO112.out; subst eo40) | ((with_reducible refine gate_callee (f := 33) rfl ?_); refine goesL_ (some 11) rfl rfl Try.func33 (by kernel_rfl) rfl #[.slice Ao39 y107.length co39, .slice Ao40 y110.length co40] rfl (by (try simp only [List.map_toArray, List.map_cons, List.map_nil]); first | done | rfl | (simp only [List.length_drop, List.length_take]; rfl)) ?_; (with_reducible refine (rpc_Of.calls k _ _ y107 _ _ y110 t113 _ ?side1 ?side2 ?side3 ?side4 A1.out).mono ?_); (case side1 => repeat (first | exact (Kd.R_reads' HO109.out).2.2 | (with_reducible refine Kd.C_alloc ?_ _) | (with_reducible refine Kd.C_drewN ?_ _) | (with_reducible refine Kd.C_drew ?_))); (case side2 => exact (Kd.R_reads' HO109.out).2.1); (case side3 => repeat (first | exact (Kd.R_reads' HO112.out).2.2 | (with_reducible refine Kd.C_alloc ?_ _) | (with_reducible refine Kd.C_drewN ?_ _) | (with_reducible refine Kd.C_drew ?_))); (case side4 => exact (Kd.R_reads' HO112.out).2.1); rintro e w41 ⟨v114, rfl, ho0, hb⟩; refine ⟨_, rfl, ?_⟩; have n0_ := Aside0.mk (Kd.R_below (by (with_reducible repeat (first | apply Kd.R_alloc | apply Kd.R_drewN | apply Kd.R_drew)); exact HO109.out) hb); have n1_ := Aside0.mk (Kd.R_below (by (with_reducible repeat (first | apply Kd.R_alloc | apply Kd.R_drewN | apply Kd.R_drew)); exact HO112.out) hb); have n2_ := Aside0.mk (Kd.R_lower ho0 (below_size (by repeat (first | (with_reducible first | exact HB.out | apply below_alloc | apply pw_below_drewN | apply below_drew1) | exact HB.out)))); have n3_ := Aside0.mk (below_step (by repeat (first | (with_reducible first | exact HB.out | apply below_alloc | apply pw_below_drewN | apply below_drew1) | exact HB.out)) hb); clear HO109; clear HO112; clear HB; have HO109 := n0_; have HO112 := n1_; have HO115 := n2_; have HB := n3_; clear n0_ n1_ n2_ n3_; (try clear hb); (try clear hb2); (try clear hk); (try clear hi); (try clear ho0)) | ((with_reducible refine gate_callee (f := 35) rfl ?_); refine goesL_ (some 15) rfl rfl Try.func35 (by kernel_rfl) rfl #[.slice Ao39 y107.length co39, .agg #[.int .i64 0, .int .i64 1]] rfl (by (try simp only [List.map_toArray, List.map_cons, List.map_nil]); first | done | rfl | (simp only [List.length_drop, List.length_take]; rfl)) ?_; (with_reducible refine (rpc_Gaps.calls k _ _ y107 0 1 t116 t117 t118 _ ?side1 ?side2 A2.out).mono ?_); (case side1 => repeat (first | exact (Kd.R_reads' HO109.out).2.2 | (with_reducible refine Kd.C_alloc ?_ _) | (with_reducible refine Kd.C_drewN ?_ _) | (with_reducible refine Kd.C_drew ?_))); (case side2 => exact (Kd.R_reads' HO109.out).2.1); rintro e w42 ⟨rfl, hb⟩; refine ⟨_, rfl, ?_⟩; have n0_ := Aside0.mk (Kd.R_below (by (with_reducible repeat (first | apply Kd.R_alloc | apply Kd.R_drewN | apply Kd.R_drew)); exact HO109.out) hb); have n1_ := Aside0.mk (Kd.R_below (by (with_reducible repeat (first | apply Kd.R_alloc | apply Kd.R_drewN | apply Kd.R_drew)); exact HO112.out) hb); have n2_ := Aside0.mk (Kd.R_below (by (with_reducible repeat (first | apply Kd.R_alloc | apply Kd.R_drewN | apply Kd.R_drew)); exact HO115.out) hb); have n3_ := Aside0.mk (below_step (by repeat (first | (with_reducible first | exact HB.out | apply below_alloc | apply pw_below_drewN | apply below_drew1) | exact HB.out)) hb); clear HO109; clear HO112; clear HO115; clear HB; have HO109 := n0_; have HO112 := n1_; have HO115 := n2_; have HB := n3_; clear n0_ n1_ n2_ n3_; (try clear hb); (try clear hb2); (try clear hk); (try clear hi); obtain ⟨Ao43, co43, eo43⟩ := Kd.R_slice HO115.out; subst eo43; have p119 : 0 ≤ (0 : Int) := (by omega); have q119 : 0 < (t113.length : Int) := of_decide_eq_true (by first | (with_reducible assumption) | assumption); obtain ⟨ad119, e119, hx119_0, hx119_1⟩ := at_T46 (Kd.R_reads' HO115.out).2.2 0 p119 q119; cases e119; have qi119 : (0 < t113.length) = True := eq_true (by omega); (try rw [show ((0 : Int)).toNat = 0 from rfl] at hx119_0); (try rw [show 0 * 2 = 0 from rfl] at hx119_0); (try rw [Addr.add_zero'] at hx119_0); (try rw [show ((0 : Int)).toNat = 0 from rfl] at hx119_1); (try rw [show 0 * 2 = 0 from rfl] at hx119_1); (try rw [Addr.add_zero'] at hx119_1); replace p119 := eq_true p119; replace q119 := eq_true q119))
        go_ret
        exact ⟨by first | rfl | (simp [errW_none, errW_some] <;> rfl) | (simp [*, errW_none, errW_some] <;> rfl), by repeat (first | (with_reducible first | exact HB.out | apply below_alloc | apply pw_below_drewN | apply below_drew1) | exact HB.out)⟩
    · rw [if_neg c4] at H
      exact absurd H (by simp)
  · rw [if_neg c3] at H
    have c3b0 : ((t113.length : Int) == 1) = false := beq_eq_false_iff_ne.mpr c3
    have c3b1 : ((t113.length : Int) != 1) = true := bne_iff_ne.mpr c3
    obtain rfl := Option.some.inj H
    go_enter Try.func31, Try.ntmps31
    go_wp2_with (first | ((with_reducible refine gate_dst (N := 8) rfl ?_); refine Kd.R_lit k37 _ 37 ?hg (N := 8) ?hd (xs := ([(⟨1, 1, 0, 1, (⟨#[97]⟩ : ByteArray), (⟨#[98]⟩ : ByteArray), 5, 15⟩ : S37), (⟨1, 2, 1, 2, (⟨#[99]⟩ : ByteArray), (⟨#[98]⟩ : ByteArray), 8, 4⟩ : S37)] : List (S37))) (inner := [.int .u64 1, .int .u64 1, .int .u64 0, .int .u8 1, .string (⟨#[97]⟩ : ByteArray), .string (⟨#[98]⟩ : ByteArray), .int .i64 5, .int .i64 15, .int .u64 1, .int .u64 2, .int .u64 1, .int .u8 2, .string (⟨#[99]⟩ : ByteArray), .string (⟨#[98]⟩ : ByteArray), .int .i64 8, .int .i64 4]) (ok := fun _ => True) (okp := fun _ => True) ?hr ?hp (fun _ hk => hk) trivial (Below.refl _ _) (Nat.le_refl _) (by simp) ?_; (case hd => rfl); (case hg => rfl); (case hr => first | (go_simp; done) | (go_simp; rfl)); (case hp => exact (Reps.c8 (show Kd.M k37 _ _ _ (⟨1, 1, 0, 1, (⟨#[97]⟩ : ByteArray), (⟨#[98]⟩ : ByteArray), 5, 15⟩ : S37) [.int .u64 1, .int .u64 1, .int .u64 0, .int .u8 1, .string (⟨#[97]⟩ : ByteArray), .string (⟨#[98]⟩ : ByteArray), .int .i64 5, .int .i64 15] from (k37_mkM _ _ _ (⟨1, 1, 0, 1, (⟨#[97]⟩ : ByteArray), (⟨#[98]⟩ : ByteArray), 5, 15⟩ : S37) )) (Reps.c8 (show Kd.M k37 _ _ _ (⟨1, 2, 1, 2, (⟨#[99]⟩ : ByteArray), (⟨#[98]⟩ : ByteArray), 8, 4⟩ : S37) [.int .u64 1, .int .u64 2, .int .u64 1, .int .u8 2, .string (⟨#[99]⟩ : ByteArray), .string (⟨#[98]⟩ : ByteArray), .int .i64 8, .int .i64 4] from (k37_mkM _ _ _ (⟨1, 2, 1, 2, (⟨#[99]⟩ : ByteArray), (⟨#[98]⟩ : ByteArray), 8, 4⟩ : S37) )) (Reps.none _ _)))); intro v108 w44 ho45 hb hg_ hnew_; clear hg_ hnew_; (first | rw [← Ny107.out] at ho45 | (simp only [Int.reduceToNat] at ho45; rw [← Ny107.out] at ho45)); have n0_ := Aside0.mk (Kd.R_lower ho45 (below_size (by repeat (first | (with_reducible first | exact HB.out | apply below_alloc | apply pw_below_drewN | apply below_drew1) | exact HB.out)))); have n1_ := Aside0.mk (below_step (by repeat (first | (with_reducible first | exact HB.out | apply below_alloc | apply pw_below_drewN | apply below_drew1) | exact HB.out)) hb); clear HB; have HO109 := n0_; have HB := n1_; clear n0_ n1_; clear hb ho45) | ((with_reducible refine gate_dst (N := 10) rfl ?_); refine Kd.R_lit (Kd.int .i64) _ 3 ?hg (N := 10) ?hd (xs := ([(-1), 0] : List Int)) (inner := [.int .i64 (-1), .int .i64 0]) (ok := fun _ => True) (okp := fun _ => True) ?hr ?hp (fun _ hk => hk) trivial (Below.refl _ _) (Nat.le_refl _) (by simp) ?_; (case hd => rfl); (case hg => rfl); (case hr => first | (go_simp; done) | (go_simp; rfl)); (case hp => exact (Reps.one (show Kd.M (Kd.int .i64) _ _ _ (-1) [.int .i64 (-1)] from rfl) (Reps.one (show Kd.M (Kd.int .i64) _ _ _ 0 [.int .i64 0] from rfl) (Reps.none _ _)))); intro v111 w46 ho47 hb hg_ hnew_; clear hg_ hnew_; (first | rw [← Ny110.out] at ho47 | (simp only [Int.reduceToNat] at ho47; rw [← Ny110.out] at ho47)); have n0_ := Aside0.mk (Kd.R_below (by (with_reducible repeat (first | apply Kd.R_alloc | apply Kd.R_drewN | apply Kd.R_drew)); exact HO109.out) hb); have n1_ := Aside0.mk (Kd.R_lower ho47 (below_size (by repeat (first | (with_reducible first | exact HB.out | apply below_alloc | apply pw_below_drewN | apply below_drew1) | exact HB.out)))); have n2_ := Aside0.mk (below_step (by repeat (first | (with_reducible first | exact HB.out | apply below_alloc | apply pw_below_drewN | apply below_drew1) | exact HB.out)) hb); clear HO109; clear HB; have HO109 := n0_; have HO112 := n1_; have HB := n2_; clear n0_ n1_ n2_; clear hb ho47; obtain ⟨Ao48, co48, eo48⟩ := Kd.R_slice HO109.out; subst eo48; obtain ⟨Ao49, co49, eo49⟩ := Kd.R_slice HO112.out; subst eo49) | ((with_reducible refine gate_callee (f := 33) rfl ?_); refine goesL_ (some 11) rfl rfl Try.func33 (by kernel_rfl) rfl #[.slice Ao48 y107.length co48, .slice Ao49 y110.length co49] rfl (by (try simp only [List.map_toArray, List.map_cons, List.map_nil]); first | done | rfl | (simp only [List.length_drop, List.length_take]; rfl)) ?_; (with_reducible refine (rpc_Of.calls k _ _ y107 _ _ y110 t113 _ ?side1 ?side2 ?side3 ?side4 A1.out).mono ?_); (case side1 => repeat (first | exact (Kd.R_reads' HO109.out).2.2 | (with_reducible refine Kd.C_alloc ?_ _) | (with_reducible refine Kd.C_drewN ?_ _) | (with_reducible refine Kd.C_drew ?_))); (case side2 => exact (Kd.R_reads' HO109.out).2.1); (case side3 => repeat (first | exact (Kd.R_reads' HO112.out).2.2 | (with_reducible refine Kd.C_alloc ?_ _) | (with_reducible refine Kd.C_drewN ?_ _) | (with_reducible refine Kd.C_drew ?_))); (case side4 => exact (Kd.R_reads' HO112.out).2.1); rintro e w50 ⟨v114, rfl, ho0, hb⟩; refine ⟨_, rfl, ?_⟩; have n0_ := Aside0.mk (Kd.R_below (by (with_reducible repeat (first | apply Kd.R_alloc | apply Kd.R_drewN | apply Kd.R_drew)); exact HO109.out) hb); have n1_ := Aside0.mk (Kd.R_below (by (with_reducible repeat (first | apply Kd.R_alloc | apply Kd.R_drewN | apply Kd.R_drew)); exact HO112.out) hb); have n2_ := Aside0.mk (Kd.R_lower ho0 (below_size (by repeat (first | (with_reducible first | exact HB.out | apply below_alloc | apply pw_below_drewN | apply below_drew1) | exact HB.out)))); have n3_ := Aside0.mk (below_step (by repeat (first | (with_reducible first | exact HB.out | apply below_alloc | apply pw_below_drewN | apply below_drew1) | exact HB.out)) hb); clear HO109; clear HO112; clear HB; have HO109 := n0_; have HO112 := n1_; have HO115 := n2_; have HB := n3_; clear n0_ n1_ n2_ n3_; (try clear hb); (try clear hb2); (try clear hk); (try clear hi); (try clear ho0)) | ((with_reducible refine gate_callee (f := 35) rfl ?_); refine goesL_ (some 15) rfl rfl Try.func35 (by kernel_rfl) rfl #[.slice Ao48 y107.length co48, .agg #[.int .i64 0, .int .i64 1]] rfl (by (try simp only [List.map_toArray, List.map_cons, List.map_nil]); first | done | rfl | (simp only [List.length_drop, List.length_take]; rfl)) ?_; (with_reducible refine (rpc_Gaps.calls k _ _ y107 0 1 t116 t117 t118 _ ?side1 ?side2 A2.out).mono ?_); (case side1 => repeat (first | exact (Kd.R_reads' HO109.out).2.2 | (with_reducible refine Kd.C_alloc ?_ _) | (with_reducible refine Kd.C_drewN ?_ _) | (with_reducible refine Kd.C_drew ?_))); (case side2 => exact (Kd.R_reads' HO109.out).2.1); rintro e w51 ⟨rfl, hb⟩; refine ⟨_, rfl, ?_⟩; have n0_ := Aside0.mk (Kd.R_below (by (with_reducible repeat (first | apply Kd.R_alloc | apply Kd.R_drewN | apply Kd.R_drew)); exact HO109.out) hb); have n1_ := Aside0.mk (Kd.R_below (by (with_reducible repeat (first | apply Kd.R_alloc | apply Kd.R_drewN | apply Kd.R_drew)); exact HO112.out) hb); have n2_ := Aside0.mk (Kd.R_below (by (with_reducible repeat (first | apply Kd.R_alloc | apply Kd.R_drewN | apply Kd.R_drew)); exact HO115.out) hb); have n3_ := Aside0.mk (below_step (by repeat (first | (with_reducible first | exact HB.out | apply below_alloc | apply pw_below_drewN | apply below_drew1) | exact HB.out)) hb); clear HO109; clear HO112; clear HO115; clear HB; have HO109 := n0_; have HO112 := n1_; have HO115 := n2_; have HB := n3_; clear n0_ n1_ n2_ n3_; (try clear hb); (try clear hb2); (try clear hk); (try clear hi); obtain ⟨Ao52, co52, eo52⟩ := Kd.R_slice HO115.out; subst eo52))
    go_ret
    exact ⟨by first | rfl | (simp [errW_none, errW_some] <;> rfl) | (simp [*, errW_none, errW_some] <;> rfl), by repeat (first | (with_reducible first | exact HB.out | apply below_alloc | apply pw_below_drewN | apply below_drew1) | exact HB.out)⟩

/-! ### merkhetref01_Name: function 48 -/
mutual
def merkhetref01_Name.j0 : Nat → ByteArray → Bool → Option (Bool)
  | 0, _, _ => none
  | k + 1, x0, x13 => if x13 = true then (some false) else (merkhetref01_Name.l0 k x0 (⟨#[97, 98, 99, 100, 101, 102, 103, 104, 105, 106, 107, 108, 109, 110, 111, 112, 113, 114, 115, 116, 117, 118, 119, 120, 121, 122, 48, 49, 50, 51, 52, 53, 54, 55, 56, 57, 45, 46, 95]⟩ : ByteArray) 0)
def merkhetref01_Name.l0 : Nat → ByteArray → ByteArray → Int → Option (Bool)
  | 0, _, _, _ => none
  | k + 1, x0, x3, x4 => if x4 < (x0.size : Int) then (merkhetref01_Name.l1 k x0 x3 x4 false 0) else (some true)
def merkhetref01_Name.l1 : Nat → ByteArray → ByteArray → Int → Bool → Int → Option (Bool)
  | 0, _, _, _, _, _ => none
  | k + 1, x0, x3, x4, x5, x6 => if x6 < (x3.size : Int) then (if 0 ≤ x6 then (if 0 ≤ x4 then (if x4 < (x0.size : Int) then (if (bt x3 x6) = (bt x0 x4) then (merkhetref01_Name.l1 k x0 x3 x4 true (wrap64 (x6 + 1))) else (merkhetref01_Name.l1 k x0 x3 x4 x5 (wrap64 (x6 + 1)))) else (none)) else (none)) else (none)) else (if x5 = true then (merkhetref01_Name.l0 k x0 x3 (wrap64 (x4 + 1))) else (some false))
end
def merkhetref01_Name.f (k : Nat) (a0 : ByteArray) : Option (Bool) := if a0.toList = ([] : List UInt8) then (merkhetref01_Name.j0 k a0 true) else (merkhetref01_Name.j0 k a0 (decide ((a0.size : Int) > 16)))
theorem merkhetref01_Name.mono_l : ∀ k, (∀ y0 y1, LeO (merkhetref01_Name.j0 k y0 y1) (merkhetref01_Name.j0 (k + 1) y0 y1)) ∧ (∀ y0 y1 y2, LeO (merkhetref01_Name.l0 k y0 y1 y2) (merkhetref01_Name.l0 (k + 1) y0 y1 y2)) ∧ (∀ y0 y1 y2 y3 y4, LeO (merkhetref01_Name.l1 k y0 y1 y2 y3 y4) (merkhetref01_Name.l1 (k + 1) y0 y1 y2 y3 y4))
  | 0 => ⟨fun _ _ r h => by simp [merkhetref01_Name.j0] at h, fun _ _ _ r h => by simp [merkhetref01_Name.l0] at h, fun _ _ _ _ _ r h => by simp [merkhetref01_Name.l1] at h⟩
  | k + 1 => by
    obtain ⟨ih0, ih1, ih2⟩ := merkhetref01_Name.mono_l k
    refine ⟨?_, ?_, ?_⟩
    · intro y0 y1
      unfold merkhetref01_Name.j0
      repeat' first
      | (with_reducible exact ih0 _ _)
      | (with_reducible exact ih1 _ _ _)
      | (with_reducible exact ih2 _ _ _ _ _)
      | (with_reducible exact LeO.refl _)
      | (with_reducible exact LeO.none _)
      | (with_reducible refine LeO.ite ?_ ?_)
      | (with_reducible refine LeO.bind ?_ (fun _ => ?_))
      | exact ih0 _ _
      | exact ih1 _ _ _
      | exact ih2 _ _ _ _ _
      | exact LeO.none _
      | refine LeO.ite ?_ ?_
      | refine LeO.bind ?_ (fun _ => ?_)
    · intro y0 y1 y2
      unfold merkhetref01_Name.l0
      repeat' first
      | (with_reducible exact ih0 _ _)
      | (with_reducible exact ih1 _ _ _)
      | (with_reducible exact ih2 _ _ _ _ _)
      | (with_reducible exact LeO.refl _)
      | (with_reducible exact LeO.none _)
      | (with_reducible refine LeO.ite ?_ ?_)
      | (with_reducible refine LeO.bind ?_ (fun _ => ?_))
      | exact ih0 _ _
      | exact ih1 _ _ _
      | exact ih2 _ _ _ _ _
      | exact LeO.none _
      | refine LeO.ite ?_ ?_
      | refine LeO.bind ?_ (fun _ => ?_)
    · intro y0 y1 y2 y3 y4
      unfold merkhetref01_Name.l1
      repeat' first
      | (with_reducible exact ih0 _ _)
      | (with_reducible exact ih1 _ _ _)
      | (with_reducible exact ih2 _ _ _ _ _)
      | (with_reducible exact LeO.refl _)
      | (with_reducible exact LeO.none _)
      | (with_reducible refine LeO.ite ?_ ?_)
      | (with_reducible refine LeO.bind ?_ (fun _ => ?_))
      | exact ih0 _ _
      | exact ih1 _ _ _
      | exact ih2 _ _ _ _ _
      | exact LeO.none _
      | refine LeO.ite ?_ ?_
      | refine LeO.bind ?_ (fun _ => ?_)
theorem merkhetref01_Name.mono : ∀ a0 k, LeO (merkhetref01_Name.f k a0) (merkhetref01_Name.f (k + 1) a0) := by
  intro a0 k
  obtain ⟨ih0, ih1, ih2⟩ := merkhetref01_Name.mono_l k
  unfold merkhetref01_Name.f
  repeat' first
      | (with_reducible exact ih0 _ _)
      | (with_reducible exact ih1 _ _ _)
      | (with_reducible exact ih2 _ _ _ _ _)
      | (with_reducible exact LeO.refl _)
      | (with_reducible exact LeO.none _)
      | (with_reducible refine LeO.ite ?_ ?_)
      | (with_reducible refine LeO.bind ?_ (fun _ => ?_))
      | exact ih0 _ _
      | exact ih1 _ _ _
      | exact ih2 _ _ _ _ _
      | exact LeO.none _
      | refine LeO.ite ?_ ?_
      | refine LeO.bind ?_ (fun _ => ?_)
set_option maxHeartbeats 8000000 in
set_option maxRecDepth 100000 in
theorem merkhetref01_Name.calls (k : Nat) (a0 : ByteArray) (r : Bool) (w : World) (h : merkhetref01_Name.f k a0 = some r) :
    Calls Try.prog 48 #[.string a0] w fun e w' => e = .returned (.bool r) ∧ Drawn0 w w' := by
  have H : (if a0.toList = ([] : List UInt8) then (merkhetref01_Name.j0 k a0 true) else (merkhetref01_Name.j0 k a0 (decide ((a0.size : Int) > 16)))) = some r := h
  clear h
  have HC2 := Aside0.mk H
  clear H
  go_enter Try.func48, Try.ntmps48
  go_upto_region 1 with (fail)
  repeat (go_quiet (fail); go_upto_region 1 with (fail))
  go_cut [13] (fun v13 wc => ∃ (kq : Nat) (x13_1 : Bool), v13 = .bool x13_1 ∧ Aside0 (merkhetref01_Name.j0 kq a0 x13_1 = some r) ∧ Aside0 (kq ≤ k) ∧ Drawn0 w wc)
  case first =>
    have H := HC2.out
    clear HC2
    by_cases c3 : a0.toList = ([] : List UInt8)
    · rw [if_pos c3] at H
      have c3b0 : (a0.toList == ([] : List UInt8)) = true := beq_iff_eq.mpr c3
      have c3b1 : (a0.toList != ([] : List UInt8)) = false := bne_eq_false_iff_eq.mpr c3
      clear c3
      (first | rw [c3b0] | (simp only [i64_w, i32_w]; rw [c3b0]) | skip)
      have H' := Aside0.mk H
      clear H
      go_wp2
      repeat (go_quiet (fail); try go_wp2)
      go_meet
      case rel => exact ⟨_, (true), (by first | rfl | (simp; done) | (simp [*]; done)), H', ⟨by first | omega | exact Nat.le_refl _⟩, by repeat (first | exact Drawn0.refl _ | apply Drawn0.step)⟩
    · rw [if_neg c3] at H
      have c3b0 : (a0.toList == ([] : List UInt8)) = false := beq_eq_false_iff_ne.mpr c3
      have c3b1 : (a0.toList != ([] : List UInt8)) = true := bne_iff_ne.mpr c3
      (first | rw [c3b0] | (simp only [i64_w, i32_w]; rw [c3b0]) | skip)
      have H' := Aside0.mk H
      clear H
      go_wp2
      repeat (go_quiet (fail); try go_wp2)
      go_meet
      case rel => exact ⟨_, (decide ((a0.size : Int) > 16)), (by first | rfl | (simp; done) | (simp [*]; done)), H', ⟨by first | omega | exact Nat.le_refl _⟩, by repeat (first | exact Drawn0.refl _ | apply Drawn0.step)⟩
  case rest =>
    clear HC2
    try clear p2
    try clear c3
    try clear c3b0
    try clear c3b1
    obtain ⟨kq, x13_1, rfl, HA, HJ1, ⟨mc1, rfl⟩⟩ := hcut
    cases kq with
    | zero => exact absurd HA.out (by simp [merkhetref01_Name.j0])
    | succ kj1 =>
      have H := HA.out
      clear HA
      simp only [merkhetref01_Name.j0] at H
      by_cases c4 : x13_1 = true
      · subst c4
        have H1 : (some false) = some r := by rw [if_pos rfl] at H; exact H
        clear H
        have H := H1
        clear H1
        obtain rfl := Option.some.inj H
        go_wp2
        repeat (go_quiet (fail); try go_wp2)
        go_ret
        exact ⟨by first | rfl | (simp; done) | (simp [*]; done), by repeat (first | exact Drawn0.refl _ | apply Drawn0.step)⟩
      · replace c4 := Bool.eq_false_iff.mpr c4
        subst c4
        have H1 : (merkhetref01_Name.l0 kj1 a0 (⟨#[97, 98, 99, 100, 101, 102, 103, 104, 105, 106, 107, 108, 109, 110, 111, 112, 113, 114, 115, 116, 117, 118, 119, 120, 121, 122, 48, 49, 50, 51, 52, 53, 54, 55, 56, 57, 45, 46, 95]⟩ : ByteArray) 0) = some r := by rw [if_neg (show ¬ (false = true) by decide)] at H; exact H
        clear H
        have H := H1
        clear H1
        have H' := Aside0.mk H
        clear H
        go_wp2
        repeat (go_quiet (fail); try go_wp2)
        go_loopg [4] kj1 (fun kq v4 w' => ∃ (x4_2 : Int), v4 = .int .i64 x4_2 ∧ Aside0 (merkhetref01_Name.l0 kq a0 (⟨#[97, 98, 99, 100, 101, 102, 103, 104, 105, 106, 107, 108, 109, 110, 111, 112, 113, 114, 115, 116, 117, 118, 119, 120, 121, 122, 48, 49, 50, 51, 52, 53, 54, 55, 56, 57, 45, 46, 95]⟩ : ByteArray) x4_2 = some r) ∧ Aside0 (kq ≤ kj1) ∧ Drawn0 w w')
        case atStart => exact ⟨(0), (by first | rfl | (simp; done) | (simp [*]; done)), H', ⟨Nat.le_refl _⟩, by repeat (first | exact Drawn0.refl _ | apply Drawn0.step)⟩
        case round =>
          clear H'
          try clear c1
          try clear p2
          try clear c3
          try clear c3b0
          try clear c3b1
          try clear c4
          try clear p2
          obtain ⟨x4_2, rfl, HA, HK2, ⟨m2, rfl⟩⟩ := hrel
          cases gk with
          | zero => exact absurd HA.out (by simp [merkhetref01_Name.l0])
          | succ k2 =>
            have H := HA.out
            clear HA
            simp only [merkhetref01_Name.l0] at H
            by_cases c5 : x4_2 < (a0.size : Int)
            · rw [if_pos c5] at H
              have c5b0 : decide (x4_2 < (a0.size : Int)) = true := decide_eq_true c5
              clear c5
              have H' := Aside0.mk H
              clear H
              go_wp2
              repeat (go_quiet (fail); try go_wp2)
              go_loopg [5, 6] k2 (fun kq v5 v6 w' => ∃ (x5_3 : Bool) (x6_3 : Int), v5 = .bool x5_3 ∧ v6 = .int .i64 x6_3 ∧ Aside0 (merkhetref01_Name.l1 kq a0 (⟨#[97, 98, 99, 100, 101, 102, 103, 104, 105, 106, 107, 108, 109, 110, 111, 112, 113, 114, 115, 116, 117, 118, 119, 120, 121, 122, 48, 49, 50, 51, 52, 53, 54, 55, 56, 57, 45, 46, 95]⟩ : ByteArray) x4_2 x5_3 x6_3 = some r) ∧ Aside0 (kq ≤ k2) ∧ Drawn0 w w')
              case atStart => exact ⟨(false), (0), (by first | rfl | (simp; done) | (simp [*]; done)), (by first | rfl | (simp; done) | (simp [*]; done)), H', ⟨Nat.le_refl _⟩, by repeat (first | exact Drawn0.refl _ | apply Drawn0.step)⟩
              case round =>
                clear H'
                try clear c1
                try clear p2
                try clear c3
                try clear c3b0
                try clear c3b1
                try clear c4
                try clear c5
                try clear c5b0
                try clear p2
                obtain ⟨x5_3, x6_3, rfl, rfl, HA, HK3, ⟨m3, rfl⟩⟩ := hrel
                cases gk with
                | zero => exact absurd HA.out (by simp [merkhetref01_Name.l1])
                | succ k3 =>
                  have H := HA.out
                  clear HA
                  simp only [merkhetref01_Name.l1] at H
                  by_cases c6 : x6_3 < ((⟨#[97, 98, 99, 100, 101, 102, 103, 104, 105, 106, 107, 108, 109, 110, 111, 112, 113, 114, 115, 116, 117, 118, 119, 120, 121, 122, 48, 49, 50, 51, 52, 53, 54, 55, 56, 57, 45, 46, 95]⟩ : ByteArray).size : Int)
                  · rw [if_pos c6] at H
                    have c6b0 : decide (x6_3 < ((⟨#[97, 98, 99, 100, 101, 102, 103, 104, 105, 106, 107, 108, 109, 110, 111, 112, 113, 114, 115, 116, 117, 118, 119, 120, 121, 122, 48, 49, 50, 51, 52, 53, 54, 55, 56, 57, 45, 46, 95]⟩ : ByteArray).size : Int)) = true := decide_eq_true c6
                    have c6b7 : decide (x6_3 < 39) = true := c6b0
                    clear c6
                    by_cases c7 : 0 ≤ x6_3
                    · rw [if_pos c7] at H
                      have c7b0 : decide (0 ≤ x6_3) = true := decide_eq_true c7
                      clear c7
                      by_cases c9 : 0 ≤ x4_2
                      · rw [if_pos c9] at H
                        have c9b0 : decide (0 ≤ x4_2) = true := decide_eq_true c9
                        clear c9
                        by_cases c10 : x4_2 < (a0.size : Int)
                        · rw [if_pos c10] at H
                          have c10b0 : decide (x4_2 < (a0.size : Int)) = true := decide_eq_true c10
                          clear c10
                          by_cases c12 : (bt (⟨#[97, 98, 99, 100, 101, 102, 103, 104, 105, 106, 107, 108, 109, 110, 111, 112, 113, 114, 115, 116, 117, 118, 119, 120, 121, 122, 48, 49, 50, 51, 52, 53, 54, 55, 56, 57, 45, 46, 95]⟩ : ByteArray) x6_3) = (bt a0 x4_2)
                          · rw [if_pos c12] at H
                            have c12b0 : ((bt (⟨#[97, 98, 99, 100, 101, 102, 103, 104, 105, 106, 107, 108, 109, 110, 111, 112, 113, 114, 115, 116, 117, 118, 119, 120, 121, 122, 48, 49, 50, 51, 52, 53, 54, 55, 56, 57, 45, 46, 95]⟩ : ByteArray) x6_3) == (bt a0 x4_2)) = true := beq_iff_eq.mpr c12
                            have c12b1 : ((bt (⟨#[97, 98, 99, 100, 101, 102, 103, 104, 105, 106, 107, 108, 109, 110, 111, 112, 113, 114, 115, 116, 117, 118, 119, 120, 121, 122, 48, 49, 50, 51, 52, 53, 54, 55, 56, 57, 45, 46, 95]⟩ : ByteArray) x6_3) != (bt a0 x4_2)) = false := bne_eq_false_iff_eq.mpr c12
                            clear c12
                            have H' := Aside0.mk H
                            clear H
                            have p8 : 0 ≤ (x6_3 : Int) := of_decide_eq_true (by first | (with_reducible assumption) | assumption)
                            have q8 : x6_3 < (39 : Int) := of_decide_eq_true (by first | (with_reducible assumption) | assumption)
                            have hx8 := bt_at (⟨#[97, 98, 99, 100, 101, 102, 103, 104, 105, 106, 107, 108, 109, 110, 111, 112, 113, 114, 115, 116, 117, 118, 119, 120, 121, 122, 48, 49, 50, 51, 52, 53, 54, 55, 56, 57, 45, 46, 95]⟩ : ByteArray) x6_3
                            replace p8 := eq_true p8
                            replace q8 := eq_true q8
                            have p11 : 0 ≤ (x4_2 : Int) := of_decide_eq_true (by first | (with_reducible assumption) | assumption)
                            have q11 : x4_2 < (a0.size : Int) := of_decide_eq_true (by first | (with_reducible assumption) | assumption)
                            have hx11 := bt_at a0 x4_2
                            replace p11 := eq_true p11
                            replace q11 := eq_true q11
                            go_wp2
                            repeat (go_quiet (fail); try go_wp2)
                            go_roundg k3
                            case measure => have := HJ1.out; have := HK2.out; have := HK3.out; omega
                            case rel => exact ⟨(true), (wrap64 (x6_3 + 1)), (by first | rfl | (simp; done) | (simp [*]; done)), (by first | rfl | (simp; done) | (simp [*]; done)), H', ⟨by have := HJ1.out; have := HK2.out; have := HK3.out; omega⟩, by repeat (first | exact Drawn0.refl _ | apply Drawn0.step)⟩
                          · rw [if_neg c12] at H
                            have c12b0 : ((bt (⟨#[97, 98, 99, 100, 101, 102, 103, 104, 105, 106, 107, 108, 109, 110, 111, 112, 113, 114, 115, 116, 117, 118, 119, 120, 121, 122, 48, 49, 50, 51, 52, 53, 54, 55, 56, 57, 45, 46, 95]⟩ : ByteArray) x6_3) == (bt a0 x4_2)) = false := beq_eq_false_iff_ne.mpr c12
                            have c12b1 : ((bt (⟨#[97, 98, 99, 100, 101, 102, 103, 104, 105, 106, 107, 108, 109, 110, 111, 112, 113, 114, 115, 116, 117, 118, 119, 120, 121, 122, 48, 49, 50, 51, 52, 53, 54, 55, 56, 57, 45, 46, 95]⟩ : ByteArray) x6_3) != (bt a0 x4_2)) = true := bne_iff_ne.mpr c12
                            have H' := Aside0.mk H
                            clear H
                            have p8 : 0 ≤ (x6_3 : Int) := of_decide_eq_true (by first | (with_reducible assumption) | assumption)
                            have q8 : x6_3 < (39 : Int) := of_decide_eq_true (by first | (with_reducible assumption) | assumption)
                            have hx8 := bt_at (⟨#[97, 98, 99, 100, 101, 102, 103, 104, 105, 106, 107, 108, 109, 110, 111, 112, 113, 114, 115, 116, 117, 118, 119, 120, 121, 122, 48, 49, 50, 51, 52, 53, 54, 55, 56, 57, 45, 46, 95]⟩ : ByteArray) x6_3
                            replace p8 := eq_true p8
                            replace q8 := eq_true q8
                            have p11 : 0 ≤ (x4_2 : Int) := of_decide_eq_true (by first | (with_reducible assumption) | assumption)
                            have q11 : x4_2 < (a0.size : Int) := of_decide_eq_true (by first | (with_reducible assumption) | assumption)
                            have hx11 := bt_at a0 x4_2
                            replace p11 := eq_true p11
                            replace q11 := eq_true q11
                            go_wp2
                            repeat (go_quiet (fail); try go_wp2)
                            go_roundg k3
                            case measure => have := HJ1.out; have := HK2.out; have := HK3.out; omega
                            case rel => exact ⟨(x5_3), (wrap64 (x6_3 + 1)), (by first | rfl | (simp; done) | (simp [*]; done)), (by first | rfl | (simp; done) | (simp [*]; done)), H', ⟨by have := HJ1.out; have := HK2.out; have := HK3.out; omega⟩, by repeat (first | exact Drawn0.refl _ | apply Drawn0.step)⟩
                        · rw [if_neg c10] at H
                          exact absurd H (by simp)
                      · rw [if_neg c9] at H
                        exact absurd H (by simp)
                    · rw [if_neg c7] at H
                      exact absurd H (by simp)
                  · rw [if_neg c6] at H
                    have c6b0 : decide (x6_3 < ((⟨#[97, 98, 99, 100, 101, 102, 103, 104, 105, 106, 107, 108, 109, 110, 111, 112, 113, 114, 115, 116, 117, 118, 119, 120, 121, 122, 48, 49, 50, 51, 52, 53, 54, 55, 56, 57, 45, 46, 95]⟩ : ByteArray).size : Int)) = false := decide_eq_false c6
                    have c6b7 : decide (x6_3 < 39) = false := c6b0
                    clear c6
                    by_cases c13 : x5_3 = true
                    · subst c13
                      have H1 : (merkhetref01_Name.l0 k3 a0 (⟨#[97, 98, 99, 100, 101, 102, 103, 104, 105, 106, 107, 108, 109, 110, 111, 112, 113, 114, 115, 116, 117, 118, 119, 120, 121, 122, 48, 49, 50, 51, 52, 53, 54, 55, 56, 57, 45, 46, 95]⟩ : ByteArray) (wrap64 (x4_2 + 1))) = some r := by rw [if_pos rfl] at H; exact H
                      clear H
                      have H := H1
                      clear H1
                      have H' := Aside0.mk H
                      clear H
                      go_wp2
                      repeat (go_quiet (fail); try go_wp2)
                      go_roundg k3
                      case measure => have := HJ1.out; have := HK2.out; have := HK3.out; omega
                      case rel => exact ⟨(wrap64 (x4_2 + 1)), (by first | rfl | (simp; done) | (simp [*]; done)), H', ⟨by have := HJ1.out; have := HK2.out; have := HK3.out; omega⟩, by repeat (first | exact Drawn0.refl _ | apply Drawn0.step)⟩
                    · replace c13 := Bool.eq_false_iff.mpr c13
                      subst c13
                      have H1 : (some false) = some r := by rw [if_neg (show ¬ (false = true) by decide)] at H; exact H
                      clear H
                      have H := H1
                      clear H1
                      obtain rfl := Option.some.inj H
                      go_wp2
                      repeat (go_quiet (fail); try go_wp2)
                      go_ret
                      exact ⟨by first | rfl | (simp; done) | (simp [*]; done), by repeat (first | exact Drawn0.refl _ | apply Drawn0.step)⟩
            · rw [if_neg c5] at H
              have c5b0 : decide (x4_2 < (a0.size : Int)) = false := decide_eq_false c5
              clear c5
              obtain rfl := Option.some.inj H
              go_wp2
              repeat (go_quiet (fail); try go_wp2)
              go_ret
              exact ⟨by first | rfl | (simp; done) | (simp [*]; done), by repeat (first | exact Drawn0.refl _ | apply Drawn0.step)⟩

end Go.Proofs.Ytcgjplolehhpjaa.S
