-- WRITTEN FOR THIS CLAIM by wip/tools/mp.py, a program of this project that drives the kit's print; the functions that the print does not take are this project's own texts.
import Derived.Test.YtdpodjgggicaoaaSSx0q
import Derived.Test.YtdpodjgggicaoaaSSx2q
import Derived.Test.YtdpodjgggicaoaaSSx3q
namespace Go.Proofs.Ytdpodjgggicaoaa.SS
open Go.RowKit Go.Proofs.YtdpodjgggicaoaaW.PrintWords Go.Proofs.YtdpodjgggicaoaaW.PrintLast Go.Proofs.YtdpodjgggicaoaaW.PrintMore
attribute [local go_sem] max2_int min2_int max_two min_two max_three min_three max_four min_four   -- for this text's walks alone
set_option linter.unusedVariables false
set_option linter.unusedSimpArgs false
def slices_IndexFunc_byte_byte_idx (p : Int → Bool) (l : List Int) : Int := if l.any p = true then (l.findIdx p : Int) else -1
theorem slices_IndexFunc_byte_byte_hit (p : Int → Bool) (l : List Int) (k : Nat) (hk : k < l.length) (hp : p l[k] = true) (hn : ∀ j (h : j < l.length), j < k → p l[j] = false) : slices_IndexFunc_byte_byte_idx p l = (k : Int) := by
  unfold slices_IndexFunc_byte_byte_idx
  rw [if_pos (List.any_eq_true.2 ⟨_, List.getElem_mem hk, hp⟩)]
  congr 1
  rw [List.findIdx_eq hk]
  exact ⟨hp, fun j hj => by simpa using hn j (by omega) hj⟩
theorem slices_IndexFunc_byte_byte_miss (p : Int → Bool) (l : List Int) (hn : ∀ j (h : j < l.length), p l[j] = false) : slices_IndexFunc_byte_byte_idx p l = -1 := by
  unfold slices_IndexFunc_byte_byte_idx
  rw [if_neg]
  intro h
  obtain ⟨x, hx, hp⟩ := List.any_eq_true.1 h
  obtain ⟨j, hj, rfl⟩ := List.getElem_of_mem hx
  rw [hn j hj] at hp
  exact absurd hp (by decide)
set_option maxHeartbeats 8000000 in
set_option maxRecDepth 100000 in
theorem slices_IndexFunc_byte_byte.calls (A0 : Option Addr) (c0 : Nat) (l0 : List Int) (p : Int → Bool) (g : Nat) (lb : Array Value) (eg : ∀ args w, (callFunc g args).run Try.prog w = .ok (.enter g args) w) (w : World) (hr0 : Kd.C (Kd.int .u8) w A0 l0.length l0)
    (hp : ∀ (W : World) (x : Int), x ∈ l0 → Below w.heap.size w W → Calls Try.prog g (#[(fun x : Int => (.int .u8 x : Value)) x] ++ lb) W fun e w' => e = .returned (.bool (p x)) ∧ Below w.heap.size w w') :
    Calls Try.prog 73 #[.slice A0 l0.length c0, .func (.func g) #[] lb] w fun e w' => e = .returned (.int .i64 (slices_IndexFunc_byte_byte_idx p l0)) ∧ Below w.heap.size w w' := by
  have HR0 := Aside0.mk hr0
  have HP := Aside0.mk hp
  have HB := Aside0.mk (Below.refl w.heap.size w)
  have hmax : l0.length ≤ 9223372036854775807 := Kd.C_max hr0
  clear hr0 hp
  go_enter Try.func73, Try.ntmps73
  go_wp2
  go_loopg [5, 8] l0.length (fun gg _ s8 wr => ∃ k : Nat, k ≤ l0.length ∧ l0.length - k ≤ gg ∧ s8 = .int .i64 k ∧ Aside0 (Below w.heap.size w wr) ∧ Aside0 (∀ j (h : j < l0.length), j < k → p l0[j] = false))
  case atStart => exact ⟨0, Nat.zero_le _, by omega, rfl, HB, ⟨fun j _ hj => absurd hj (Nat.not_lt_zero _)⟩⟩
  case round =>
    obtain ⟨k, hk, hg, rfl, HBr, HN⟩ := hrel
    by_cases hlt : k < l0.length
    · have hltz : (k : Int) < (l0.length : Int) := by omega
      obtain ⟨ad, e, hx0⟩ := Kd.at_int HR0.out (k : Int) (by omega) (by omega)
      cases e
      replace hx0 := (HBr.out.cell (World.block_lt_of_cell? w _ hx0)).trans hx0; simp only [Int.toNat_natCast] at hx0
      skip
      have hcall := HP.out wr l0[k] (List.getElem_mem hlt) HBr.out
      have hy : rd l0 (k : Int) = l0[k] := by first | (simp [rd, rdOf, List.getD_eq_getElem?_getD, List.getElem?_eq_getElem hlt]; done) | (show l0.getD _ _ = _; simp [List.getD_eq_getElem?_getD, List.getElem?_eq_getElem hlt])
      have HY := Aside0.mk hy
      generalize hz : l0[k] = y at hcall hy
      rw [hy] at hx0
      have HZ := Aside0.mk hz
      clear hy hz
      cases hq : p y with
      | true =>
        rw [hq] at hcall
        go_wp2_with (go_at_fn g; refine hcall.mono ?_; rintro e w' ⟨rfl, hb'⟩)
        go_ret
        refine ⟨?_, hb'⟩
        rw [slices_IndexFunc_byte_byte_hit p l0 k hlt (by rw [HZ.out]; exact hq) HN.out]
        rfl
      | false =>
        rw [hq] at hcall
        go_wp2_with (go_at_fn g; refine hcall.mono ?_; rintro e w' ⟨rfl, hb'⟩)
        go_roundg (l0.length - (k + 1))
        case measure => omega
        case rel =>
          refine ⟨k + 1, by omega, by omega, by go_num, ⟨hb'⟩, ⟨fun j h hj => ?_⟩⟩
          by_cases e : j = k
          · subst e
            rw [HZ.out]; exact hq
          · exact HN.out j h (by omega)
    · have hltz : ¬ (k : Int) < (l0.length : Int) := by omega
      have HK := Aside0.mk (show k = l0.length by omega)
      go_wp2
      go_ret
      refine ⟨?_, HBr.out⟩
      rw [slices_IndexFunc_byte_byte_miss p l0 (fun j h => HN.out j h (by rw [HK.out]; exact h))]
      rfl
def slices_ContainsFunc_byte_byte.f (l0 : List Int) (a1 : Nat) : Option Bool := if a1 = 71 then some (l0.any fun c => c != 0) else none
theorem slices_ContainsFunc_byte_byte_pred (w W : World) (x : Int) (hb : Below w.heap.size w W) : Calls Try.prog 71 (#[.int .u8 x] ++ #[]) W fun e w' => e = .returned (.bool (x != 0)) ∧ Below w.heap.size w w' := by
  have HB := Aside0.mk hb
  clear hb
  show Calls Try.prog 71 #[.int .u8 x] W _
  go_enter Try.func71, Try.ntmps71
  go_wp2
  go_ret
  exact ⟨rfl, HB.out⟩
set_option maxHeartbeats 8000000 in
set_option maxRecDepth 100000 in
theorem slices_ContainsFunc_byte_byte.calls (A0 : Option Addr) (c0 : Nat) (l0 : List Int) (a1 : Nat) (r : Bool) (w : World) (hr0 : Kd.C (Kd.int .u8) w A0 l0.length l0) (hc0 : l0.length ≤ c0) (h : slices_ContainsFunc_byte_byte.f l0 a1 = some r) :
    Calls Try.prog 70 #[.slice A0 l0.length c0, .func (.func a1) #[] #[]] w fun e w' => e = .returned (.bool r) ∧ Below w.heap.size w w' := by
  unfold slices_ContainsFunc_byte_byte.f at h
  by_cases ha : a1 = 71
  · rw [if_pos ha] at h
    subst ha
    obtain rfl := Option.some.inj h
    have hany : decide (0 ≤ slices_IndexFunc_byte_byte_idx (fun c => c != 0) l0) = l0.any (fun c => c != 0) := by
      unfold slices_IndexFunc_byte_byte_idx
      by_cases h : l0.any (fun c => c != 0) = true
      · rw [if_pos h, h]; exact decide_eq_true (by omega)
      · rw [if_neg h, Bool.eq_false_iff.2 h]; rfl
    have HA := Aside0.mk hany
    have hcall := slices_IndexFunc_byte_byte.calls A0 c0 l0 (fun c => c != 0) 71 #[] (fun args w => enters_ (P := Try.prog) Try.func71 (by kernel_rfl) rfl args w) w hr0 (fun W x _ hb => slices_ContainsFunc_byte_byte_pred w W x hb)
    clear hany hr0 h
    go_enter Try.func70, Try.ntmps70
    go_wp2_with (go_at_call 73; refine hcall.mono ?_; rintro e w' ⟨rfl, hb'⟩)
    go_ret
    exact ⟨by first | rfl | (rw [← HA.out]; rfl), hb'⟩
  · rw [if_neg ha] at h
    exact absurd h (by simp)
def pack_GetText.j0 : Nat → List Int → Int → Bool → Option (ByteArray × Bool)
  | 0, _, _, _ => none
  | k + 1, x0, x1, x18 => if x18 = true then (some ((⟨#[]⟩ : ByteArray), false)) else (if 0 ≤ (wrap64 (x1 + 1)) then (if (wrap64 (x1 + 1)) ≤ (wrap64 (x1 + 17)) then (if (wrap64 (x1 + 17)) ≤ (x0.length : Int) then (if 0 ≤ x1 then (if x1 < (x0.length : Int) then (if 0 ≤ (wrap64 (rd x0 x1)) then (if (wrap64 (rd x0 x1)) ≤ (((x0.take ((wrap64 (x1 + 17)) : Int).toNat).drop ((wrap64 (x1 + 1)) : Int).toNat).length : Int) then ((slices_ContainsFunc_byte_byte.f (((x0.take ((wrap64 (x1 + 17)) : Int).toNat).drop ((wrap64 (x1 + 1)) : Int).toNat).drop ((wrap64 (rd x0 x1)) : Int).toNat) 71).bind fun t153 => (if t153 = true then (some ((⟨#[]⟩ : ByteArray), false)) else (some (strOfNums (((x0.take ((wrap64 (x1 + 17)) : Int).toNat).drop ((wrap64 (x1 + 1)) : Int).toNat).take ((wrap64 (rd x0 x1)) : Int).toNat), true)))) else (none)) else (none)) else (none)) else (none)) else (none)) else (none)) else (none))
def pack_GetText.f (k : Nat) (l0 : List Int) (a1 : Int) : Option (ByteArray × Bool) := (pack_there.f l0 a1 17).bind fun t148 => (if t148 = true then (if 0 ≤ a1 then (if a1 < (l0.length : Int) then (pack_GetText.j0 k l0 a1 (decide ((rd l0 a1) > 16))) else (none)) else (none)) else (pack_GetText.j0 k l0 a1 true))
theorem pack_GetText.mono_l : ∀ k, (∀ y0 y1 y2, LeO (pack_GetText.j0 k y0 y1 y2) (pack_GetText.j0 (k + 1) y0 y1 y2))
  | 0 => fun _ _ _ r h => by simp [pack_GetText.j0] at h
  | k + 1 => by
    have ih0 := pack_GetText.mono_l k
    · intro y0 y1 y2
      unfold pack_GetText.j0
      repeat' first
      | (with_reducible exact ih0 _ _ _)
      | (with_reducible exact LeO.refl _)
      | (with_reducible exact LeO.none _)
      | (with_reducible refine LeO.ite ?_ ?_)
      | (with_reducible refine LeO.bind ?_ (fun _ => ?_))
      | exact ih0 _ _ _
      | exact LeO.none _
      | refine LeO.ite ?_ ?_
      | refine LeO.bind ?_ (fun _ => ?_)
theorem pack_GetText.mono : ∀ a0 a1 k, LeO (pack_GetText.f k a0 a1) (pack_GetText.f (k + 1) a0 a1) := by
  intro a0 a1 k
  have ih0 := pack_GetText.mono_l k
  unfold pack_GetText.f
  repeat' first
      | (with_reducible exact ih0 _ _ _)
      | (with_reducible exact LeO.refl _)
      | (with_reducible exact LeO.none _)
      | (with_reducible refine LeO.ite ?_ ?_)
      | (with_reducible refine LeO.bind ?_ (fun _ => ?_))
      | exact ih0 _ _ _
      | exact LeO.none _
      | refine LeO.ite ?_ ?_
      | refine LeO.bind ?_ (fun _ => ?_)
set_option maxHeartbeats 8000000 in
set_option maxRecDepth 100000 in
theorem pack_GetText.calls (k : Nat) (A0 : Option Addr) (c0 : Nat) (l0 : List Int) (a1 : Int) (r1 : ByteArray) (r2 : Bool) (w : World) (hr0 : Kd.C (Kd.int .u8) w A0 l0.length l0) (hc0 : l0.length ≤ c0) (h : pack_GetText.f k l0 a1 = some (r1, r2)) :
    Calls Try.prog 65 #[.slice A0 l0.length c0, .int .i64 a1] w fun e w' => e = .returned (.tuple #[.string r1, .bool r2]) ∧ Below w.heap.size w w' := by
  have HR0 := Aside0.mk hr0
  have HC0 := Aside0.mk hc0
  clear hr0 hc0
  have HB := Aside0.mk (Below.refl w.heap.size w)
  have H : ((pack_there.f l0 a1 17).bind fun t148 => (if t148 = true then (if 0 ≤ a1 then (if a1 < (l0.length : Int) then (pack_GetText.j0 k l0 a1 (decide ((rd l0 a1) > 16))) else (none)) else (none)) else (pack_GetText.j0 k l0 a1 true))) = some (r1, r2) := h
  clear h
  have HC3 := Aside0.mk H
  clear H
  go_enter Try.func65, Try.ntmps65
  go_upto_region 1 with (fail)
  go_cut [18] (fun v18 wc => ∃ (kq : Nat) (x18_2 : Bool), v18 = .bool x18_2 ∧ Aside0 (pack_GetText.j0 kq l0 a1 x18_2 = some (r1, r2)) ∧ Aside0 (kq ≤ k) ∧ Aside0 (Below w.heap.size w wc))
  case first =>
    have H := HC3.out
    clear HC3
    replace H := Option.bind_eq_some_iff.mp H
    obtain ⟨t148, A40, H⟩ := H
    replace H : (if t148 = true then (if 0 ≤ a1 then (if a1 < (l0.length : Int) then (pack_GetText.j0 k l0 a1 (decide ((rd l0 a1) > 16))) else (none)) else (none)) else (pack_GetText.j0 k l0 a1 true)) = some (r1, r2) := H
    have A4 := Aside0.mk A40
    clear A40
    by_cases c5 : t148 = true
    · subst c5
      have H1 : (if 0 ≤ a1 then (if a1 < (l0.length : Int) then (pack_GetText.j0 k l0 a1 (decide ((rd l0 a1) > 16))) else (none)) else (none)) = some (r1, r2) := by rw [if_pos rfl] at H; exact H
      clear H
      have H := H1
      clear H1
      by_cases c6 : 0 ≤ a1
      · rw [if_pos c6] at H
        have c6b0 : decide (0 ≤ a1) = true := decide_eq_true c6
        clear c6
        (first | rw [c6b0] | (simp only [i64_w, i32_w]; rw [c6b0]) | skip)
        by_cases c7 : a1 < (l0.length : Int)
        · rw [if_pos c7] at H
          have c7b0 : decide (a1 < (l0.length : Int)) = true := decide_eq_true c7
          clear c7
          have H' := Aside0.mk H
          clear H
          go_wp2_with (first | ((with_reducible refine gate_callee (f := 61) rfl ?_); refine goesL_ (some 10) rfl rfl Try.func61 (by kernel_rfl) rfl #[.slice A0 l0.length c0, .int .i64 a1, .int .i64 17] rfl (by (try simp only [List.map_toArray, List.map_cons, List.map_nil]); first | done | rfl | (simp only [List.length_drop, List.length_take]; rfl)) ?_; (with_reducible refine (pack_there.calls _ _ l0 a1 17 true _ ?side1 ?side2 A4.out).mono ?_); (case side1 => repeat (first | exact (Kd.C_below HR0.out HB.out) | (with_reducible refine Kd.C_alloc ?_ _) | (with_reducible refine Kd.C_drewN ?_ _) | (with_reducible refine Kd.C_drew ?_))); (case side2 => exact HC0.out); rintro e w' ⟨rfl, ⟨nd, rfl⟩⟩; refine ⟨_, rfl, ?_⟩; have p149 : 0 ≤ (a1 : Int) := of_decide_eq_true (by first | (with_reducible assumption) | assumption); have q149 : a1 < (l0.length : Int) := of_decide_eq_true (by first | (with_reducible assumption) | assumption); obtain ⟨ad149, e149, hx149_0⟩ := Kd.at_int HR0.out a1 p149 q149; cases e149; replace hx149_0 := (HB.out.cell (World.block_lt_of_cell? w _ hx149_0)).trans hx149_0; replace p149 := eq_true p149; replace q149 := eq_true q149))
          go_meet
          case rel => exact ⟨_, (decide ((rd l0 a1) > 16)), (by first | rfl | (simp; done) | (simp [*]; done)), H', ⟨by first | omega | exact Nat.le_refl _⟩, ⟨by repeat (first | (with_reducible first | exact HB.out | apply below_alloc | apply pw_below_drewN | apply below_drew1) | exact HB.out)⟩⟩
        · rw [if_neg c7] at H
          exact absurd H (by simp)
      · rw [if_neg c6] at H
        exact absurd H (by simp)
    · replace c5 := Bool.eq_false_iff.mpr c5
      subst c5
      have H1 : (pack_GetText.j0 k l0 a1 true) = some (r1, r2) := by rw [if_neg (show ¬ (false = true) by decide)] at H; exact H
      clear H
      have H := H1
      clear H1
      have H' := Aside0.mk H
      clear H
      go_wp2_with (first | ((with_reducible refine gate_callee (f := 61) rfl ?_); refine goesL_ (some 10) rfl rfl Try.func61 (by kernel_rfl) rfl #[.slice A0 l0.length c0, .int .i64 a1, .int .i64 17] rfl (by (try simp only [List.map_toArray, List.map_cons, List.map_nil]); first | done | rfl | (simp only [List.length_drop, List.length_take]; rfl)) ?_; (with_reducible refine (pack_there.calls _ _ l0 a1 17 false _ ?side1 ?side2 A4.out).mono ?_); (case side1 => repeat (first | exact (Kd.C_below HR0.out HB.out) | (with_reducible refine Kd.C_alloc ?_ _) | (with_reducible refine Kd.C_drewN ?_ _) | (with_reducible refine Kd.C_drew ?_))); (case side2 => exact HC0.out); rintro e w' ⟨rfl, ⟨nd, rfl⟩⟩; refine ⟨_, rfl, ?_⟩))
      go_meet
      case rel => exact ⟨_, (true), (by first | rfl | (simp; done) | (simp [*]; done)), H', ⟨by first | omega | exact Nat.le_refl _⟩, ⟨by repeat (first | (with_reducible first | exact HB.out | apply below_alloc | apply pw_below_drewN | apply below_drew1) | exact HB.out)⟩⟩
  case rest =>
    clear HC3
    try clear p1
    try clear q1
    try clear hx1
    try clear p2
    try clear c5
    try clear c6
    try clear c6b0
    try clear c7
    try clear c7b0
    try clear hx149_0
    try clear p149
    try clear q149
    obtain ⟨kq, x18_2, rfl, HA, HJ2, HB⟩ := hcut
    cases kq with
    | zero => exact absurd HA.out (by simp [pack_GetText.j0])
    | succ kj2 =>
      have H := HA.out
      clear HA
      simp only [pack_GetText.j0] at H
      by_cases c8 : x18_2 = true
      · subst c8
        have H1 : (some ((⟨#[]⟩ : ByteArray), false)) = some (r1, r2) := by rw [if_pos rfl] at H; exact H
        clear H
        have H := H1
        clear H1
        simp only [Option.some.injEq, Prod.mk.injEq] at H
        obtain ⟨rfl, rfl⟩ := H
        go_wp2
        go_ret2
        exact ⟨by first | rfl | (simp [errW_none, errW_some] <;> rfl) | (simp [*, errW_none, errW_some] <;> rfl), by repeat (first | (with_reducible first | exact HB.out | apply below_alloc | apply pw_below_drewN | apply below_drew1) | exact HB.out)⟩
      · replace c8 := Bool.eq_false_iff.mpr c8
        subst c8
        have H1 : (if 0 ≤ (wrap64 (a1 + 1)) then (if (wrap64 (a1 + 1)) ≤ (wrap64 (a1 + 17)) then (if (wrap64 (a1 + 17)) ≤ (l0.length : Int) then (if 0 ≤ a1 then (if a1 < (l0.length : Int) then (if 0 ≤ (wrap64 (rd l0 a1)) then (if (wrap64 (rd l0 a1)) ≤ (((l0.take ((wrap64 (a1 + 17)) : Int).toNat).drop ((wrap64 (a1 + 1)) : Int).toNat).length : Int) then ((slices_ContainsFunc_byte_byte.f (((l0.take ((wrap64 (a1 + 17)) : Int).toNat).drop ((wrap64 (a1 + 1)) : Int).toNat).drop ((wrap64 (rd l0 a1)) : Int).toNat) 71).bind fun t153 => (if t153 = true then (some ((⟨#[]⟩ : ByteArray), false)) else (some (strOfNums (((l0.take ((wrap64 (a1 + 17)) : Int).toNat).drop ((wrap64 (a1 + 1)) : Int).toNat).take ((wrap64 (rd l0 a1)) : Int).toNat), true)))) else (none)) else (none)) else (none)) else (none)) else (none)) else (none)) else (none)) = some (r1, r2) := by rw [if_neg (show ¬ (false = true) by decide)] at H; exact H
        clear H
        have H := H1
        clear H1
        obtain ⟨ji9, hji9⟩ : ∃ j_ : Int, (wrap64 (a1 + 1)) = j_ := ⟨_, rfl⟩
        replace H : (if 0 ≤ (ji9) then (if (ji9) ≤ (wrap64 (a1 + 17)) then (if (wrap64 (a1 + 17)) ≤ (l0.length : Int) then (if 0 ≤ a1 then (if a1 < (l0.length : Int) then (if 0 ≤ (wrap64 (rd l0 a1)) then (if (wrap64 (rd l0 a1)) ≤ (((l0.take ((wrap64 (a1 + 17)) : Int).toNat).drop ((ji9) : Int).toNat).length : Int) then ((slices_ContainsFunc_byte_byte.f (((l0.take ((wrap64 (a1 + 17)) : Int).toNat).drop ((ji9) : Int).toNat).drop ((wrap64 (rd l0 a1)) : Int).toNat) 71).bind fun t153 => (if t153 = true then (some ((⟨#[]⟩ : ByteArray), false)) else (some (strOfNums (((l0.take ((wrap64 (a1 + 17)) : Int).toNat).drop ((ji9) : Int).toNat).take ((wrap64 (rd l0 a1)) : Int).toNat), true)))) else (none)) else (none)) else (none)) else (none)) else (none)) else (none)) else (none)) = some (r1, r2) := by first | (rw [hji9] at H; exact H) | (simp only [hji9] at H ⊢; exact H)
        have hji9w : (IntKind.i64.wrap (a1 + 1)) = ji9 := (i64_w _).trans hji9
        by_cases c10 : 0 ≤ (ji9)
        · rw [if_pos c10] at H
          have c10b0 := eq_true c10
          have c10b1 : decide (0 ≤ (ji9)) = true := decide_eq_true c10
          clear c10
          by_cases c11 : (ji9) ≤ (wrap64 (a1 + 17))
          · rw [if_pos c11] at H
            have c11b0 := eq_true c11
            have c11b1 : decide ((ji9) ≤ (wrap64 (a1 + 17))) = true := decide_eq_true c11
            by_cases c12 : (wrap64 (a1 + 17)) ≤ (l0.length : Int)
            · rw [if_pos c12] at H
              have c12b0 := eq_true c12
              have c12b1 : decide ((wrap64 (a1 + 17)) ≤ (l0.length : Int)) = true := decide_eq_true c12
              by_cases c13 : 0 ≤ a1
              · rw [if_pos c13] at H
                have c13b0 : decide (0 ≤ a1) = true := decide_eq_true c13
                clear c13
                by_cases c14 : a1 < (l0.length : Int)
                · rw [if_pos c14] at H
                  have c14b0 : decide (a1 < (l0.length : Int)) = true := decide_eq_true c14
                  clear c14
                  obtain ⟨ji15, hji15⟩ : ∃ j_ : Int, (wrap64 (rd l0 a1)) = j_ := ⟨_, rfl⟩
                  replace H : (if 0 ≤ (ji15) then (if (ji15) ≤ (((l0.take ((wrap64 (a1 + 17)) : Int).toNat).drop ((ji9) : Int).toNat).length : Int) then ((slices_ContainsFunc_byte_byte.f (((l0.take ((wrap64 (a1 + 17)) : Int).toNat).drop ((ji9) : Int).toNat).drop ((ji15) : Int).toNat) 71).bind fun t153 => (if t153 = true then (some ((⟨#[]⟩ : ByteArray), false)) else (some (strOfNums (((l0.take ((wrap64 (a1 + 17)) : Int).toNat).drop ((ji9) : Int).toNat).take ((ji15) : Int).toNat), true)))) else (none)) else (none)) = some (r1, r2) := by first | (rw [hji15] at H; exact H) | (simp only [hji15] at H ⊢; exact H)
                  have hji15w : (IntKind.i64.wrap (rd l0 a1)) = ji15 := (i64_w _).trans hji15
                  by_cases c16 : 0 ≤ (ji15)
                  · rw [if_pos c16] at H
                    have c16b0 := eq_true c16
                    have c16b1 : decide (0 ≤ (ji15)) = true := decide_eq_true c16
                    clear c16
                    by_cases c17 : (ji15) ≤ (((l0.take ((wrap64 (a1 + 17)) : Int).toNat).drop ((ji9) : Int).toNat).length : Int)
                    · rw [if_pos c17] at H
                      have c17b0 := eq_true c17
                      (try (have c17b9 := c17b0; simp only [List.length_drop] at c17b9))
                      have c17b1 : decide ((ji15) ≤ (((l0.take ((wrap64 (a1 + 17)) : Int).toNat).drop ((ji9) : Int).toNat).length : Int)) = true := decide_eq_true c17
                      replace H := Option.bind_eq_some_iff.mp H
                      obtain ⟨t153, A180, H⟩ := H
                      replace H : (if t153 = true then (some ((⟨#[]⟩ : ByteArray), false)) else (some (strOfNums (((l0.take ((wrap64 (a1 + 17)) : Int).toNat).drop ((ji9) : Int).toNat).take ((ji15) : Int).toNat), true))) = some (r1, r2) := H
                      have A18 := Aside0.mk A180
                      clear A180
                      by_cases c19 : t153 = true
                      · subst c19
                        have H1 : (some ((⟨#[]⟩ : ByteArray), false)) = some (r1, r2) := by rw [if_pos rfl] at H; exact H
                        clear H
                        have H := H1
                        clear H1
                        simp only [Option.some.injEq, Prod.mk.injEq] at H
                        obtain ⟨rfl, rfl⟩ := H
                        obtain ⟨i020, hi020, _, hsz20, _⟩ := info_parts info5
                        obtain ⟨A20, hcut20, hA20, hC20⟩ := print_mid_of (P := Try.prog) (Value.int .u8) 0 25 5 .i64 .i64 Try.underlying25 hi020 hsz20 A0 c0 l0 (ji9) (wrap64 (a1 + 17)) (of_decide_eq_true (by first | (with_reducible assumption) | assumption)) (by first | omega | exact of_decide_eq_true (by first | (with_reducible assumption) | assumption)) (of_decide_eq_true (by first | (with_reducible assumption) | assumption)) HC0.out
                        have HR150 := Aside0.mk (Kd.C_of_reads (h1 := fun _ => rfl) (hA20 _ (Kd.reads_of_C HR0.out)))
                        have HC150 := Aside0.mk hC20
                        clear hA20 hC20 hi020 hsz20
                        have p151 : 0 ≤ (a1 : Int) := of_decide_eq_true (by first | (with_reducible assumption) | assumption)
                        have q151 : a1 < (l0.length : Int) := of_decide_eq_true (by first | (with_reducible assumption) | assumption)
                        obtain ⟨ad151, e151, hx151_0⟩ := Kd.at_int HR0.out a1 p151 q151
                        cases e151
                        replace hx151_0 := (HB.out.cell (World.block_lt_of_cell? w _ hx151_0)).trans hx151_0
                        replace p151 := eq_true p151
                        replace q151 := eq_true q151
                        obtain ⟨i021, hi021, _, hsz21, _⟩ := info_parts info5
                        obtain ⟨A21, hcut21, hA21, hC21⟩ := print_drop_of (P := Try.prog) (Value.int .u8) 0 25 5 .i64 Try.underlying25 hi021 hsz21 A20 (c0 - (ji9).toNat) ((l0.take ((wrap64 (a1 + 17)) : Int).toNat).drop ((ji9) : Int).toNat) (ji15) (of_decide_eq_true (by first | (with_reducible assumption) | assumption)) (of_decide_eq_true (by first | (with_reducible assumption) | assumption)) HC150.out
                        try rw [show ((l0.take ((wrap64 (a1 + 17)) : Int).toNat).drop ((ji9) : Int).toNat).length = ((wrap64 (a1 + 17)).toNat - (ji9).toNat) from (by rw [List.length_drop, List.length_take]; have h_ : ((wrap64 (a1 + 17)) : Int) ≤ (l0.length : Int) := of_decide_eq_true (by first | (with_reducible assumption) | assumption); omega)] at hcut21
                        have HR152 := Aside0.mk (Kd.C_of_reads (h1 := fun _ => rfl) (hA21 _ (Kd.reads_of_C HR150.out)))
                        have HC152 := Aside0.mk hC21
                        clear hA21 hC21 hi021 hsz21
                        go_wp2_with (first | ((with_reducible refine gate_callee (f := 70) rfl ?_); refine goesL_ (some 33) rfl rfl Try.func70 (by kernel_rfl) rfl #[.slice A21 (((l0.take ((wrap64 (a1 + 17)) : Int).toNat).drop ((ji9) : Int).toNat).drop ((ji15) : Int).toNat).length ((c0 - (ji9).toNat) - (ji15).toNat), .func (.func 71) #[] #[]] rfl (by (try simp only [List.map_toArray, List.map_cons, List.map_nil]); first | done | (rw [show (((l0.take ((wrap64 (a1 + 17)) : Int).toNat).drop ((ji9) : Int).toNat).drop ((ji15) : Int).toNat).length = ((wrap64 (a1 + 17)).toNat - ((ji9).toNat + (ji15).toNat)) from (by rw [List.length_drop, show ((l0.take ((wrap64 (a1 + 17)) : Int).toNat).drop ((ji9) : Int).toNat).length = ((wrap64 (a1 + 17)).toNat - (ji9).toNat) from (by rw [List.length_drop, List.length_take]; have h_ : ((wrap64 (a1 + 17)) : Int) ≤ (l0.length : Int) := of_decide_eq_true (by first | (with_reducible assumption) | assumption); omega)]; omega)] <;> rfl) | (simp only [hji15, hji9]; rfl) | rfl | (simp only [List.length_drop, List.length_take]; rfl)) ?_; (with_reducible refine (slices_ContainsFunc_byte_byte.calls _ _ (((l0.take ((wrap64 (a1 + 17)) : Int).toNat).drop ((ji9) : Int).toNat).drop ((ji15) : Int).toNat) 71 true _ ?side1 ?side2 A18.out).mono ?_); (case side1 => repeat (first | exact (Kd.C_below HR152.out HB.out) | (with_reducible refine Kd.C_alloc ?_ _) | (with_reducible refine Kd.C_drewN ?_ _) | (with_reducible refine Kd.C_drew ?_))); (case side2 => exact HC152.out); rintro e w22 ⟨rfl, hb⟩; refine ⟨_, rfl, ?_⟩; have n0_ := Aside0.mk (below_step (by repeat (first | (with_reducible first | exact HB.out | apply below_alloc | apply pw_below_drewN | apply below_drew1) | exact HB.out)) hb); clear HB; have HB := n0_; clear n0_; (try clear hb); (try clear hb2); (try clear hk); (try clear hi)))
                        go_ret2
                        exact ⟨by first | rfl | (simp [errW_none, errW_some] <;> rfl) | (simp only [← hji9, ← hji15]; first | rfl | (simp [errW_none, errW_some] <;> rfl)) | (simp [*, errW_none, errW_some] <;> rfl), by repeat (first | (with_reducible first | exact HB.out | apply below_alloc | apply pw_below_drewN | apply below_drew1) | exact HB.out)⟩
                      · replace c19 := Bool.eq_false_iff.mpr c19
                        subst c19
                        have H1 : (some (strOfNums (((l0.take ((wrap64 (a1 + 17)) : Int).toNat).drop ((ji9) : Int).toNat).take ((ji15) : Int).toNat), true)) = some (r1, r2) := by rw [if_neg (show ¬ (false = true) by decide)] at H; exact H
                        clear H
                        have H := H1
                        clear H1
                        have c23b0 := eq_true (of_decide_eq_true (by first | (with_reducible assumption) | assumption) : 0 ≤ (ji15))
                        have c24b0 := eq_true (of_decide_eq_true (by first | (with_reducible assumption) | assumption) : (ji15) ≤ (((l0.take ((wrap64 (a1 + 17)) : Int).toNat).drop ((ji9) : Int).toNat).length : Int))
                        simp only [Option.some.injEq, Prod.mk.injEq] at H
                        obtain ⟨rfl, rfl⟩ := H
                        obtain ⟨i025, hi025, _, hsz25, _⟩ := info_parts info5
                        obtain ⟨A25, hcut25, hA25, hC25⟩ := print_mid_of (P := Try.prog) (Value.int .u8) 0 25 5 .i64 .i64 Try.underlying25 hi025 hsz25 A0 c0 l0 (ji9) (wrap64 (a1 + 17)) (of_decide_eq_true (by first | (with_reducible assumption) | assumption)) (by first | omega | exact of_decide_eq_true (by first | (with_reducible assumption) | assumption)) (of_decide_eq_true (by first | (with_reducible assumption) | assumption)) HC0.out
                        have HR150 := Aside0.mk (Kd.C_of_reads (h1 := fun _ => rfl) (hA25 _ (Kd.reads_of_C HR0.out)))
                        have HC150 := Aside0.mk hC25
                        clear hA25 hC25 hi025 hsz25
                        have p151 : 0 ≤ (a1 : Int) := of_decide_eq_true (by first | (with_reducible assumption) | assumption)
                        have q151 : a1 < (l0.length : Int) := of_decide_eq_true (by first | (with_reducible assumption) | assumption)
                        obtain ⟨ad151, e151, hx151_0⟩ := Kd.at_int HR0.out a1 p151 q151
                        cases e151
                        replace hx151_0 := (HB.out.cell (World.block_lt_of_cell? w _ hx151_0)).trans hx151_0
                        replace p151 := eq_true p151
                        replace q151 := eq_true q151
                        obtain ⟨i026, hi026, _, hsz26, _⟩ := info_parts info5
                        obtain ⟨A26, hcut26, hA26, hC26⟩ := print_drop_of (P := Try.prog) (Value.int .u8) 0 25 5 .i64 Try.underlying25 hi026 hsz26 A25 (c0 - (ji9).toNat) ((l0.take ((wrap64 (a1 + 17)) : Int).toNat).drop ((ji9) : Int).toNat) (ji15) (of_decide_eq_true (by first | (with_reducible assumption) | assumption)) (of_decide_eq_true (by first | (with_reducible assumption) | assumption)) HC150.out
                        try rw [show ((l0.take ((wrap64 (a1 + 17)) : Int).toNat).drop ((ji9) : Int).toNat).length = ((wrap64 (a1 + 17)).toNat - (ji9).toNat) from (by rw [List.length_drop, List.length_take]; have h_ : ((wrap64 (a1 + 17)) : Int) ≤ (l0.length : Int) := of_decide_eq_true (by first | (with_reducible assumption) | assumption); omega)] at hcut26
                        have HR152 := Aside0.mk (Kd.C_of_reads (h1 := fun _ => rfl) (hA26 _ (Kd.reads_of_C HR150.out)))
                        have HC152 := Aside0.mk hC26
                        clear hA26 hC26 hi026 hsz26
                        go_wp2_with (first | ((with_reducible refine gate_callee (f := 70) rfl ?_); refine goesL_ (some 33) rfl rfl Try.func70 (by kernel_rfl) rfl #[.slice A26 (((l0.take ((wrap64 (a1 + 17)) : Int).toNat).drop ((ji9) : Int).toNat).drop ((ji15) : Int).toNat).length ((c0 - (ji9).toNat) - (ji15).toNat), .func (.func 71) #[] #[]] rfl (by (try simp only [List.map_toArray, List.map_cons, List.map_nil]); first | done | (rw [show (((l0.take ((wrap64 (a1 + 17)) : Int).toNat).drop ((ji9) : Int).toNat).drop ((ji15) : Int).toNat).length = ((wrap64 (a1 + 17)).toNat - ((ji9).toNat + (ji15).toNat)) from (by rw [List.length_drop, show ((l0.take ((wrap64 (a1 + 17)) : Int).toNat).drop ((ji9) : Int).toNat).length = ((wrap64 (a1 + 17)).toNat - (ji9).toNat) from (by rw [List.length_drop, List.length_take]; have h_ : ((wrap64 (a1 + 17)) : Int) ≤ (l0.length : Int) := of_decide_eq_true (by first | (with_reducible assumption) | assumption); omega)]; omega)] <;> rfl) | (simp only [hji15, hji9]; rfl) | rfl | (simp only [List.length_drop, List.length_take]; rfl)) ?_; (with_reducible refine (slices_ContainsFunc_byte_byte.calls _ _ (((l0.take ((wrap64 (a1 + 17)) : Int).toNat).drop ((ji9) : Int).toNat).drop ((ji15) : Int).toNat) 71 false _ ?side1 ?side2 A18.out).mono ?_); (case side1 => repeat (first | exact (Kd.C_below HR152.out HB.out) | (with_reducible refine Kd.C_alloc ?_ _) | (with_reducible refine Kd.C_drewN ?_ _) | (with_reducible refine Kd.C_drew ?_))); (case side2 => exact HC152.out); rintro e w27 ⟨rfl, hb⟩; refine ⟨_, rfl, ?_⟩; have n0_ := Aside0.mk (below_step (by repeat (first | (with_reducible first | exact HB.out | apply below_alloc | apply pw_below_drewN | apply below_drew1) | exact HB.out)) hb); clear HB; have HB := n0_; clear n0_; (try clear hb); (try clear hb2); (try clear hk); (try clear hi); obtain ⟨i028, hi028, _, hsz28, _⟩ := info_parts info5; obtain ⟨hcut28, hA28, hC28⟩ := print_take_of (P := Try.prog) (Value.int .u8) 0 25 5 .i64 Try.underlying25 hi028 hsz28 A25 (c0 - (ji9).toNat) ((l0.take ((wrap64 (a1 + 17)) : Int).toNat).drop ((ji9) : Int).toNat) (ji15) (of_decide_eq_true (by first | (with_reducible assumption) | assumption)) (of_decide_eq_true (by first | (with_reducible assumption) | assumption)) HC150.out; try rw [show ((l0.take ((wrap64 (a1 + 17)) : Int).toNat).drop ((ji9) : Int).toNat).length = ((wrap64 (a1 + 17)).toNat - (ji9).toNat) from (by rw [List.length_drop, List.length_take]; have h_ : ((wrap64 (a1 + 17)) : Int) ≤ (l0.length : Int) := of_decide_eq_true (by first | (with_reducible assumption) | assumption); omega)] at hcut28; have HR154 := Aside0.mk (Kd.C_of_reads (h1 := fun _ => rfl) (hA28 _ (Kd.reads_of_C HR150.out))); have HC154 := Aside0.mk hC28; clear hA28 hC28 hi028 hsz28; have hcv29 := Kd.C_string (P := Try.prog) (A := A25) (c := (c0 - (ji9).toNat)) Try.underlying25 Try.underlying5 Try.underlying9 (Kd.C_below HR154.out HB.out); have hcw29 := fun n_ : Nat => Kd.C_string (P := Try.prog) (A := A25) (c := (c0 - (ji9).toNat)) Try.underlying25 Try.underlying5 Try.underlying9 (Kd.C_drewN (Kd.C_below HR154.out HB.out) n_); try rw [show (((l0.take ((wrap64 (a1 + 17)) : Int).toNat).drop ((ji9) : Int).toNat).take ((ji15) : Int).toNat).length = (min (ji15).toNat ((wrap64 (a1 + 17)).toNat - (ji9).toNat)) from (by rw [List.length_take, show ((l0.take ((wrap64 (a1 + 17)) : Int).toNat).drop ((ji9) : Int).toNat).length = ((wrap64 (a1 + 17)).toNat - (ji9).toNat) from (by rw [List.length_drop, List.length_take]; have h_ : ((wrap64 (a1 + 17)) : Int) ≤ (l0.length : Int) := of_decide_eq_true (by first | (with_reducible assumption) | assumption); omega)])] at hcv29 hcw29))
                        go_ret2
                        exact ⟨by first | rfl | (simp [errW_none, errW_some] <;> rfl) | (simp only [← hji9, ← hji15]; first | rfl | (simp [errW_none, errW_some] <;> rfl)) | (simp [*, errW_none, errW_some] <;> rfl), by repeat (first | (with_reducible first | exact HB.out | apply below_alloc | apply pw_below_drewN | apply below_drew1) | exact HB.out)⟩
                    · rw [if_neg c17] at H
                      exact absurd H (by simp)
                  · rw [if_neg c16] at H
                    exact absurd H (by simp)
                · rw [if_neg c14] at H
                  exact absurd H (by simp)
              · rw [if_neg c13] at H
                exact absurd H (by simp)
            · rw [if_neg c12] at H
              exact absurd H (by simp)
          · rw [if_neg c11] at H
            exact absurd H (by simp)
        · rw [if_neg c10] at H
          exact absurd H (by simp)
def wire_get.f (k : Nat) (l0 : List Int) : Option (Int × Int × Int × Int × ByteArray × ByteArray × Int × Int × Int) :=
  (pack_Get.f k l0 0 8).bind fun x0 => (pack_Get.f k l0 8 8).bind fun x1 => (pack_Get.f k l0 16 8).bind fun x2 => (pack_Get.f k l0 24 1).bind fun x3 => (pack_Get.f k l0 25 8).bind fun x4 => (pack_Get.f k l0 33 8).bind fun x5 =>
  (pack_GetText.f k l0 41).bind fun y0 => (pack_GetText.f k l0 58).bind fun y1 =>
  if y0.2 = true then (if y1.2 = true then (span_May.f k x0.1 x1.1 x2.1 (x3.1 % 256) y0.1 y1.1 (wrap64 x4.1) (wrap64 x5.1)).bind fun m => if m = true then some (x0.1, x1.1, x2.1, x3.1 % 256, y0.1, y1.1, wrap64 x4.1, wrap64 x5.1, 0) else some (0, 0, 0, 0, ⟨#[]⟩, ⟨#[]⟩, 0, 0, 4) else some (0, 0, 0, 0, ⟨#[]⟩, ⟨#[]⟩, 0, 0, 3)) else some (0, 0, 0, 0, ⟨#[]⟩, ⟨#[]⟩, 0, 0, 3)
theorem wire_get.mono : ∀ a0 k, LeO (wire_get.f k a0) (wire_get.f (k + 1) a0) := by
  intro a0 k
  unfold wire_get.f
  repeat' first
      | (with_reducible exact pack_Get.mono _ _ _ _)
      | (with_reducible exact pack_GetText.mono _ _ _)
      | (with_reducible exact span_May.mono _ _ _ _ _ _ _ _ _)
      | (with_reducible exact LeO.refl _)
      | (with_reducible refine LeO.ite ?_ ?_)
      | (with_reducible refine LeO.bind ?_ (fun _ => ?_))
structure wgSt (w0 w : World) (A0 : Option Addr) (c0 : Nat) (l0 : List Int) (at_ : Int) (R : Nat) : Prop where
  below : Below w0.heap.size w0 w
  far : w0.heap.size ≤ R
  res : w.heap[R]? = some (.cells #[.int .u64 0, .int .u64 0, .int .u64 0, .int .u8 0, .string ⟨#[]⟩, .string ⟨#[]⟩, .int .i64 0, .int .i64 0] 77 (0, 0))
  one : w.heap[R + 1]? = some (.cells #[.slice A0 l0.length c0] 25 (0, 0))
  two : w.heap[R + 2]? = some (.cells #[.int .i64 at_] 3 (0, 0))
theorem wgSt_step {w0 w w1 : World} {A0 : Option Addr} {c0 : Nat} {l0 : List Int} {at_ : Int} {R : Nat} (h : wgSt w0 w A0 c0 l0 at_ R) (hb : Below w.heap.size w w1) : wgSt w0 w1 A0 c0 l0 at_ R :=
  ⟨below_step h.below hb, h.far, blk_below h.res hb, blk_below h.one hb, blk_below h.two hb⟩
set_option maxHeartbeats 8000000 in
set_option maxRecDepth 100000 in
theorem wgSt_calls (K : Nat) (A0 : Option Addr) (c0 : Nat) (l0 : List Int) (R : Nat) (at_ s at2 : Int) (hat : wrap64 (at_ + s) = at2) (x : Int × Bool) (w0 w : World) (hr0 : Kd.C (Kd.int .u8) w0 A0 l0.length l0) (hc0 : l0.length ≤ c0) (hs : wgSt w0 w A0 c0 l0 at_ R) (h : pack_Get.f K l0 at_ s = some x) :
    Calls Try.prog 69 #[.int .i64 s, .pointer (some ⟨R + 1, 0, none⟩), .pointer (some ⟨R + 2, 0, none⟩)] w fun e w' => e = .returned (.int .u64 x.1) ∧ wgSt w0 w' A0 c0 l0 at2 R := by
  obtain ⟨x, ok⟩ := x
  have HAT := Aside0.mk hat
  clear hat
  have HR := Aside0.mk (Kd.C_below hr0 hs.below)
  have HC := Aside0.mk hc0
  have HS := Aside0.mk hs
  have HG := Aside0.mk h
  have h1 : w.cell? ⟨R + 1, 0, none⟩ = some (.slice A0 l0.length c0) := (blk_cell hs.one 0).trans rfl
  have h2 : w.cell? ⟨R + 2, 0, none⟩ = some (.int .i64 at_) := (blk_cell hs.two 0).trans rfl
  clear hr0 hc0 hs h
  go_enter Try.func69, Try.ntmps69
  go_wp2_with (go_at_call 43; refine (pack_Get.calls K A0 c0 l0 at_ s x ok _ HR.out HC.out HG.out).mono ?_; rintro e w1 ⟨rfl, hb⟩; have HS1 := Aside0.mk (wgSt_step HS.out hb); clear hb h2; have h2 : w1.cell? ⟨R + 2, 0, none⟩ = some (.int .i64 at_) := (blk_cell HS1.out.two 0).trans rfl; have h3 := blk_frozen HS1.out.two 0)
  go_ret
  rw [← HAT.out]
  exact ⟨rfl, below_set HS1.out.below (Nat.le_trans HS1.out.far (Nat.le_add_right R 2)), HS1.out.far, blk_far HS1.out.res (by simp) _, blk_far HS1.out.one (by simp) _, blk_put HS1.out.two 0 _ rfl⟩
theorem wgMade (A0 : Option Addr) (c0 : Nat) (l0 : List Int) (w0 w : World) (hb : Below w0.heap.size w0 w) :
    wgSt w0 (((w.alloc (.cells #[.int .u64 0, .int .u64 0, .int .u64 0, .int .u8 0, .string ⟨#[]⟩, .string ⟨#[]⟩, .int .i64 0, .int .i64 0] 77 (0, 0))).alloc (.cells #[.slice A0 l0.length c0] 25 (0, 0))).alloc (.cells #[.int .i64 0] 3 (0, 0))) A0 c0 l0 0 w.heap.size :=
  ⟨below_alloc (below_alloc (below_alloc hb _) _) _, hb.size, blk_alloc (blk_alloc (blk_new _ _) _) _, by have := blk_alloc (blk_new (w.alloc (.cells #[.int .u64 0, .int .u64 0, .int .u64 0, .int .u8 0, .string ⟨#[]⟩, .string ⟨#[]⟩, .int .i64 0, .int .i64 0] 77 (0, 0))) (.cells #[.slice A0 l0.length c0] 25 (0, 0))) (.cells #[.int .i64 0] 3 (0, 0)); simpa using this,
   by have := blk_new ((w.alloc (.cells #[.int .u64 0, .int .u64 0, .int .u64 0, .int .u8 0, .string ⟨#[]⟩, .string ⟨#[]⟩, .int .i64 0, .int .i64 0] 77 (0, 0))).alloc (.cells #[.slice A0 l0.length c0] 25 (0, 0))) (.cells #[.int .i64 0] 3 (0, 0)); simpa using this⟩
structure wg2St (w0 w : World) (R T : Nat) (c : Array Value) : Prop where
  below : Below w0.heap.size w0 w
  far : w0.heap.size ≤ R
  lt : R < T
  res : w.heap[R]? = some (.cells #[.int .u64 0, .int .u64 0, .int .u64 0, .int .u8 0, .string ⟨#[]⟩, .string ⟨#[]⟩, .int .i64 0, .int .i64 0] 77 (0, 0))
  var : w.heap[T]? = some (.cells c 77 (0, 0))
theorem wg2St_step {w0 w w1 : World} {R T : Nat} {c : Array Value} (h : wg2St w0 w R T c) (hb : Below w.heap.size w w1) : wg2St w0 w1 R T c :=
  ⟨below_step h.below hb, h.far, h.lt, blk_below h.res hb, blk_below h.var hb⟩
theorem wg2St_new {w0 w : World} {A0 : Option Addr} {c0 : Nat} {l0 : List Int} {at_ : Int} {R : Nat} (h : wgSt w0 w A0 c0 l0 at_ R) (c : Array Value) : wg2St w0 (w.alloc (.cells c 77 (0, 0))) R w.heap.size c :=
  ⟨below_alloc h.below _, h.far, blk_lt h.res, blk_alloc h.res _, blk_new _ _⟩
set_option maxHeartbeats 8000000 in
set_option maxRecDepth 100000 in
theorem wgNumbers_calls (A0 : Option Addr) (c0 : Nat) (l0 : List Int) (w : World) :
    Calls Try.prog 64 #[.slice A0 l0.length c0] w fun e w' => e = .returned (.func (.func 69) #[] #[.pointer (some ⟨w.heap.size, 0, none⟩), .pointer (some ⟨w.heap.size + 1, 0, none⟩)]) ∧ w' = (w.alloc (.cells #[.slice A0 l0.length c0] 25 (0, 0))).alloc (.cells #[.int .i64 0] 3 (0, 0)) := by
  have hmf : ∀ (fn : Fn) (first cap : Array Value) (w : World), (Instr.makeFunc fn first cap).run Try.prog w = .ok (.func fn first cap) w := fun _ _ _ _ => rfl
  go_enter Try.func64, Try.ntmps64
  go_wp2
  go_ret
  exact ⟨rfl, rfl⟩
set_option maxHeartbeats 8000000 in
set_option maxRecDepth 100000 in
theorem wire_get.calls (k : Nat) (A0 : Option Addr) (c0 : Nat) (l0 : List Int) (r1 : Int) (r2 : Int) (r3 : Int) (r4 : Int) (r5 : ByteArray) (r6 : ByteArray) (r7 : Int) (r8 : Int) (r9 : Int) (w : World) (hr0 : Kd.C (Kd.int .u8) w A0 l0.length l0) (hc0 : l0.length ≤ c0) (h : wire_get.f k l0 = some (r1, r2, r3, r4, r5, r6, r7, r8, r9)) :
    Calls Try.prog 49 #[.slice A0 l0.length c0] w fun e w' => e = .returned (.tuple #[.agg #[.int .u64 r1, .int .u64 r2, .int .u64 r3, .int .u8 r4, .string r5, .string r6, .int .i64 r7, .int .i64 r8], .int .i64 r9]) ∧ Below w.heap.size w w' := by
  have hu_ := Try.underlying77
  have HR := Aside0.mk hr0
  have HC := Aside0.mk hc0
  have HM := Aside0.mk (wgMade A0 c0 l0 w w (Below.refl _ _))
  clear hr0 hc0
  unfold wire_get.f at h
  obtain ⟨x0, A0_, h⟩ := Option.bind_eq_some_iff.mp h
  obtain ⟨x1, A1_, h⟩ := Option.bind_eq_some_iff.mp h
  obtain ⟨x2, A2_, h⟩ := Option.bind_eq_some_iff.mp h
  obtain ⟨x3, A3_, h⟩ := Option.bind_eq_some_iff.mp h
  obtain ⟨x4, A4_, h⟩ := Option.bind_eq_some_iff.mp h
  obtain ⟨x5, A5_, h⟩ := Option.bind_eq_some_iff.mp h
  obtain ⟨⟨y0, o0⟩, B0_, h⟩ := Option.bind_eq_some_iff.mp h
  obtain ⟨⟨y1, o1⟩, B1_, h⟩ := Option.bind_eq_some_iff.mp h
  have A0_ := Aside0.mk A0_
  have A1_ := Aside0.mk A1_
  have A2_ := Aside0.mk A2_
  have A3_ := Aside0.mk A3_
  have A4_ := Aside0.mk A4_
  have A5_ := Aside0.mk A5_
  have B0_ := Aside0.mk B0_
  have B1_ := Aside0.mk B1_
  have HH := Aside0.mk h
  clear h
  go_enter Try.func49, Try.ntmps49
  go_wp2_with (first
    | (go_at_call 64; refine (wgNumbers_calls A0 c0 l0 _).mono ?_; rintro e w1 ⟨rfl, rfl⟩))
  refine (wgSt_calls k A0 c0 l0 w.heap.size 0 8 8 (by unfold wrap64; omega) x0 w _ HR.out HC.out HM.out A0_.out).mono ?_
  rintro e w2 ⟨rfl, hs⟩
  have H0 := Aside0.mk hs
  clear hs
  go_wp2_with fail
  refine (wgSt_calls k A0 c0 l0 w.heap.size 8 8 16 (by unfold wrap64; omega) x1 w _ HR.out HC.out H0.out A1_.out).mono ?_
  rintro e w3 ⟨rfl, hs⟩
  have H1 := Aside0.mk hs
  clear hs
  go_wp2_with fail
  refine (wgSt_calls k A0 c0 l0 w.heap.size 16 8 24 (by unfold wrap64; omega) x2 w _ HR.out HC.out H1.out A2_.out).mono ?_
  rintro e w4 ⟨rfl, hs⟩
  have H2 := Aside0.mk hs
  clear hs
  go_wp2_with fail
  refine (wgSt_calls k A0 c0 l0 w.heap.size 24 1 25 (by unfold wrap64; omega) x3 w _ HR.out HC.out H2.out A3_.out).mono ?_
  rintro e w5 ⟨rfl, hs⟩
  have H3 := Aside0.mk hs
  clear hs
  go_wp2_with fail
  refine (wgSt_calls k A0 c0 l0 w.heap.size 25 8 33 (by unfold wrap64; omega) x4 w _ HR.out HC.out H3.out A4_.out).mono ?_
  rintro e w6 ⟨rfl, hs⟩
  have H4 := Aside0.mk hs
  clear hs
  go_wp2_with fail
  refine (wgSt_calls k A0 c0 l0 w.heap.size 33 8 41 (by unfold wrap64; omega) x5 w _ HR.out HC.out H4.out A5_.out).mono ?_
  rintro e w7 ⟨rfl, hs⟩
  have H5 := Aside0.mk hs
  clear hs
  go_wp2_with fail
  have HV := Aside0.mk (wg2St_new H5.out #[.int .u64 x0.1, .int .u64 x1.1, .int .u64 x2.1, .int .u8 (x3.1 % 256), .string ⟨#[]⟩, .string ⟨#[]⟩, .int .i64 (wrap64 x4.1), .int .i64 (wrap64 x5.1)])
  clear HM H0 H1 H2 H3 H4 A0_ A1_ A2_ A3_ A4_ A5_
  refine (pack_GetText.calls k A0 c0 l0 41 y0 o0 _ (Kd.C_below HR.out HV.out.below) HC.out B0_.out).mono ?_
  rintro e w8 ⟨rfl, hb⟩
  have HV2 := Aside0.mk (wg2St_step HV.out hb)
  clear hb HV
  go_wp2_with fail
  refine (pack_GetText.calls k A0 c0 l0 58 y1 o1 _ (Kd.C_below HR.out HV2.out.below) HC.out B1_.out).mono ?_
  rintro e w9 ⟨rfl, hb⟩
  have HV := Aside0.mk (wg2St_step HV2.out hb)
  clear hb HV2 B0_ B1_ HR HC
  have HT := Aside0.mk HV.out.lt
  cases o0 with
  | false =>
    have HE := Aside0.mk (Option.some.inj (show some ((0 : Int), (0 : Int), (0 : Int), (0 : Int), (⟨#[]⟩ : ByteArray), (⟨#[]⟩ : ByteArray), (0 : Int), (0 : Int), (3 : Int)) = some (r1, r2, r3, r4, r5, r6, r7, r8, r9) from HH.out))
    clear HH
    obtain ⟨rfl, rfl, rfl, rfl, rfl, rfl, rfl, rfl, rfl⟩ := by simpa only [Prod.mk.injEq] using HE.out
    clear HE
    have cR0 : w9.cell? ⟨w.heap.size, 0, none⟩ = some (.int .u64 0 : Value) := (blk_cell HV.out.res 0).trans rfl
    have fR0 := blk_frozen HV.out.res 0
    have cR1 : w9.cell? ⟨w.heap.size, 1, none⟩ = some (.int .u64 0 : Value) := (blk_cell HV.out.res 1).trans rfl
    have fR1 := blk_frozen HV.out.res 1
    have cR2 : w9.cell? ⟨w.heap.size, 2, none⟩ = some (.int .u64 0 : Value) := (blk_cell HV.out.res 2).trans rfl
    have fR2 := blk_frozen HV.out.res 2
    have cR3 : w9.cell? ⟨w.heap.size, 3, none⟩ = some (.int .u8 0 : Value) := (blk_cell HV.out.res 3).trans rfl
    have fR3 := blk_frozen HV.out.res 3
    have cR4 : w9.cell? ⟨w.heap.size, 4, none⟩ = some (.string ⟨#[]⟩ : Value) := (blk_cell HV.out.res 4).trans rfl
    have fR4 := blk_frozen HV.out.res 4
    have cR5 : w9.cell? ⟨w.heap.size, 5, none⟩ = some (.string ⟨#[]⟩ : Value) := (blk_cell HV.out.res 5).trans rfl
    have fR5 := blk_frozen HV.out.res 5
    have cR6 : w9.cell? ⟨w.heap.size, 6, none⟩ = some (.int .i64 0 : Value) := (blk_cell HV.out.res 6).trans rfl
    have fR6 := blk_frozen HV.out.res 6
    have cR7 : w9.cell? ⟨w.heap.size, 7, none⟩ = some (.int .i64 0 : Value) := (blk_cell HV.out.res 7).trans rfl
    have fR7 := blk_frozen HV.out.res 7
    go_wp2
    refine bodyPost_ret (results_ct rfl _ _ w.heap.size 77 _ (0, 0) _ rfl (blk_set (blk_set (blk_set (blk_set (blk_set (blk_set (blk_set (blk_set HV.out.res 0 _) 1 _) 2 _) 3 _) 4 _) 5 _) 6 _) 7 _) Try.underlying77 rfl (by kernel_rfl)) rfl ?_
    exact ⟨rfl, (below_set (below_set (below_set (below_set (below_set (below_set (below_set (below_set HV.out.below (Nat.le_refl _)) (Nat.le_refl _)) (Nat.le_refl _)) (Nat.le_refl _)) (Nat.le_refl _)) (Nat.le_refl _)) (Nat.le_refl _)) (Nat.le_refl _))⟩
  | true =>
    cases o1 with
    | false =>
      have HE := Aside0.mk (Option.some.inj (show some ((0 : Int), (0 : Int), (0 : Int), (0 : Int), (⟨#[]⟩ : ByteArray), (⟨#[]⟩ : ByteArray), (0 : Int), (0 : Int), (3 : Int)) = some (r1, r2, r3, r4, r5, r6, r7, r8, r9) from HH.out))
      clear HH
      obtain ⟨rfl, rfl, rfl, rfl, rfl, rfl, rfl, rfl, rfl⟩ := by simpa only [Prod.mk.injEq] using HE.out
      clear HE
      have cR0 : w9.cell? ⟨w.heap.size, 0, none⟩ = some (.int .u64 0 : Value) := (blk_cell HV.out.res 0).trans rfl
      have fR0 := blk_frozen HV.out.res 0
      have cR1 : w9.cell? ⟨w.heap.size, 1, none⟩ = some (.int .u64 0 : Value) := (blk_cell HV.out.res 1).trans rfl
      have fR1 := blk_frozen HV.out.res 1
      have cR2 : w9.cell? ⟨w.heap.size, 2, none⟩ = some (.int .u64 0 : Value) := (blk_cell HV.out.res 2).trans rfl
      have fR2 := blk_frozen HV.out.res 2
      have cR3 : w9.cell? ⟨w.heap.size, 3, none⟩ = some (.int .u8 0 : Value) := (blk_cell HV.out.res 3).trans rfl
      have fR3 := blk_frozen HV.out.res 3
      have cR4 : w9.cell? ⟨w.heap.size, 4, none⟩ = some (.string ⟨#[]⟩ : Value) := (blk_cell HV.out.res 4).trans rfl
      have fR4 := blk_frozen HV.out.res 4
      have cR5 : w9.cell? ⟨w.heap.size, 5, none⟩ = some (.string ⟨#[]⟩ : Value) := (blk_cell HV.out.res 5).trans rfl
      have fR5 := blk_frozen HV.out.res 5
      have cR6 : w9.cell? ⟨w.heap.size, 6, none⟩ = some (.int .i64 0 : Value) := (blk_cell HV.out.res 6).trans rfl
      have fR6 := blk_frozen HV.out.res 6
      have cR7 : w9.cell? ⟨w.heap.size, 7, none⟩ = some (.int .i64 0 : Value) := (blk_cell HV.out.res 7).trans rfl
      have fR7 := blk_frozen HV.out.res 7
      go_wp2
      refine bodyPost_ret (results_ct rfl _ _ w.heap.size 77 _ (0, 0) _ rfl (blk_set (blk_set (blk_set (blk_set (blk_set (blk_set (blk_set (blk_set HV.out.res 0 _) 1 _) 2 _) 3 _) 4 _) 5 _) 6 _) 7 _) Try.underlying77 rfl (by kernel_rfl)) rfl ?_
      exact ⟨rfl, (below_set (below_set (below_set (below_set (below_set (below_set (below_set (below_set HV.out.below (Nat.le_refl _)) (Nat.le_refl _)) (Nat.le_refl _)) (Nat.le_refl _)) (Nat.le_refl _)) (Nat.le_refl _)) (Nat.le_refl _)) (Nat.le_refl _))⟩
    | true =>
      have HH := Aside0.mk (show ((span_May.f k x0.1 x1.1 x2.1 (x3.1 % 256) y0 y1 (wrap64 x4.1) (wrap64 x5.1)).bind fun m => if m = true then some (x0.1, x1.1, x2.1, x3.1 % 256, y0, y1, wrap64 x4.1, wrap64 x5.1, (0 : Int)) else some ((0 : Int), (0 : Int), (0 : Int), (0 : Int), (⟨#[]⟩ : ByteArray), (⟨#[]⟩ : ByteArray), (0 : Int), (0 : Int), (4 : Int))) = some (r1, r2, r3, r4, r5, r6, r7, r8, r9) from HH.out)
      obtain ⟨m, hm, hr⟩ := Option.bind_eq_some_iff.mp HH.out
      have HM := Aside0.mk hm
      have HF := Aside0.mk hr
      clear hm hr HH
      have cT0 : w9.cell? ⟨w7.heap.size, 0, none⟩ = some (.int .u64 x0.1) := (blk_cell HV.out.var 0).trans rfl
      have fT0 := blk_frozen HV.out.var 0
      have cT1 : w9.cell? ⟨w7.heap.size, 1, none⟩ = some (.int .u64 x1.1) := (blk_cell HV.out.var 1).trans rfl
      have fT1 := blk_frozen HV.out.var 1
      have cT2 : w9.cell? ⟨w7.heap.size, 2, none⟩ = some (.int .u64 x2.1) := (blk_cell HV.out.var 2).trans rfl
      have fT2 := blk_frozen HV.out.var 2
      have cT3 : w9.cell? ⟨w7.heap.size, 3, none⟩ = some (.int .u8 (x3.1 % 256)) := (blk_cell HV.out.var 3).trans rfl
      have fT3 := blk_frozen HV.out.var 3
      have cT4 : w9.cell? ⟨w7.heap.size, 4, none⟩ = some (.string ⟨#[]⟩) := (blk_cell HV.out.var 4).trans rfl
      have fT4 := blk_frozen HV.out.var 4
      have cT5 : w9.cell? ⟨w7.heap.size, 5, none⟩ = some (.string ⟨#[]⟩) := (blk_cell HV.out.var 5).trans rfl
      have fT5 := blk_frozen HV.out.var 5
      have cT6 : w9.cell? ⟨w7.heap.size, 6, none⟩ = some (.int .i64 (wrap64 x4.1)) := (blk_cell HV.out.var 6).trans rfl
      have fT6 := blk_frozen HV.out.var 6
      have cT7 : w9.cell? ⟨w7.heap.size, 7, none⟩ = some (.int .i64 (wrap64 x5.1)) := (blk_cell HV.out.var 7).trans rfl
      have fT7 := blk_frozen HV.out.var 7
      go_wp2_with fail
      refine (span_May.calls k x0.1 x1.1 x2.1 (x3.1 % 256) y0 y1 (wrap64 x4.1) (wrap64 x5.1) m _ HM.out).mono ?_
      rintro e w10 ⟨rfl, hb⟩
      have HW := Aside0.mk (wg2St_step (c := #[.int .u64 x0.1, .int .u64 x1.1, .int .u64 x2.1, .int .u8 (x3.1 % 256), .string y0, .string y1, .int .i64 (wrap64 x4.1), .int .i64 (wrap64 x5.1)]) (show wg2St w _ w.heap.size w7.heap.size _ from ⟨below_set (below_set HV.out.below (Nat.le_of_lt HV.out.lt)) (Nat.le_of_lt HV.out.lt), HV.out.far, HV.out.lt, blk_far (blk_far HV.out.res (Nat.ne_of_lt HV.out.lt) _) (Nat.ne_of_lt HV.out.lt) _, blk_put (blk_put HV.out.var 4 _ rfl) 5 _ rfl⟩) hb)
      clear hb cT0 cT1 cT2 cT3 cT4 cT5 cT6 cT7 fT0 fT1 fT2 fT3 fT4 fT5 fT6 fT7 HM HV
      cases m with
      | false =>
        have HE := Aside0.mk (Option.some.inj (show some ((0 : Int), (0 : Int), (0 : Int), (0 : Int), (⟨#[]⟩ : ByteArray), (⟨#[]⟩ : ByteArray), (0 : Int), (0 : Int), (4 : Int)) = some (r1, r2, r3, r4, r5, r6, r7, r8, r9) from HF.out))
        clear HF
        obtain ⟨rfl, rfl, rfl, rfl, rfl, rfl, rfl, rfl, rfl⟩ := by simpa only [Prod.mk.injEq] using HE.out
        clear HE
        have cR0 : w10.cell? ⟨w.heap.size, 0, none⟩ = some (.int .u64 0 : Value) := (blk_cell HW.out.res 0).trans rfl
        have fR0 := blk_frozen HW.out.res 0
        have cR1 : w10.cell? ⟨w.heap.size, 1, none⟩ = some (.int .u64 0 : Value) := (blk_cell HW.out.res 1).trans rfl
        have fR1 := blk_frozen HW.out.res 1
        have cR2 : w10.cell? ⟨w.heap.size, 2, none⟩ = some (.int .u64 0 : Value) := (blk_cell HW.out.res 2).trans rfl
        have fR2 := blk_frozen HW.out.res 2
        have cR3 : w10.cell? ⟨w.heap.size, 3, none⟩ = some (.int .u8 0 : Value) := (blk_cell HW.out.res 3).trans rfl
        have fR3 := blk_frozen HW.out.res 3
        have cR4 : w10.cell? ⟨w.heap.size, 4, none⟩ = some (.string ⟨#[]⟩ : Value) := (blk_cell HW.out.res 4).trans rfl
        have fR4 := blk_frozen HW.out.res 4
        have cR5 : w10.cell? ⟨w.heap.size, 5, none⟩ = some (.string ⟨#[]⟩ : Value) := (blk_cell HW.out.res 5).trans rfl
        have fR5 := blk_frozen HW.out.res 5
        have cR6 : w10.cell? ⟨w.heap.size, 6, none⟩ = some (.int .i64 0 : Value) := (blk_cell HW.out.res 6).trans rfl
        have fR6 := blk_frozen HW.out.res 6
        have cR7 : w10.cell? ⟨w.heap.size, 7, none⟩ = some (.int .i64 0 : Value) := (blk_cell HW.out.res 7).trans rfl
        have fR7 := blk_frozen HW.out.res 7
        go_wp2
        refine bodyPost_ret (results_ct rfl _ _ w.heap.size 77 _ (0, 0) _ rfl (blk_set (blk_set (blk_set (blk_set (blk_set (blk_set (blk_set (blk_set HW.out.res 0 _) 1 _) 2 _) 3 _) 4 _) 5 _) 6 _) 7 _) Try.underlying77 rfl (by kernel_rfl)) rfl ?_
        exact ⟨rfl, (below_set (below_set (below_set (below_set (below_set (below_set (below_set (below_set HW.out.below (Nat.le_refl _)) (Nat.le_refl _)) (Nat.le_refl _)) (Nat.le_refl _)) (Nat.le_refl _)) (Nat.le_refl _)) (Nat.le_refl _)) (Nat.le_refl _))⟩
      | true =>
        have HE := Aside0.mk (Option.some.inj (show some (x0.1, x1.1, x2.1, x3.1 % 256, y0, y1, wrap64 x4.1, wrap64 x5.1, (0 : Int)) = some (r1, r2, r3, r4, r5, r6, r7, r8, r9) from HF.out))
        clear HF
        obtain ⟨rfl, rfl, rfl, rfl, rfl, rfl, rfl, rfl, rfl⟩ := by simpa only [Prod.mk.injEq] using HE.out
        clear HE
        have cR0 : w10.cell? ⟨w.heap.size, 0, none⟩ = some (.int .u64 0 : Value) := (blk_cell HW.out.res 0).trans rfl
        have fR0 := blk_frozen HW.out.res 0
        have cR1 : w10.cell? ⟨w.heap.size, 1, none⟩ = some (.int .u64 0 : Value) := (blk_cell HW.out.res 1).trans rfl
        have fR1 := blk_frozen HW.out.res 1
        have cR2 : w10.cell? ⟨w.heap.size, 2, none⟩ = some (.int .u64 0 : Value) := (blk_cell HW.out.res 2).trans rfl
        have fR2 := blk_frozen HW.out.res 2
        have cR3 : w10.cell? ⟨w.heap.size, 3, none⟩ = some (.int .u8 0 : Value) := (blk_cell HW.out.res 3).trans rfl
        have fR3 := blk_frozen HW.out.res 3
        have cR4 : w10.cell? ⟨w.heap.size, 4, none⟩ = some (.string ⟨#[]⟩ : Value) := (blk_cell HW.out.res 4).trans rfl
        have fR4 := blk_frozen HW.out.res 4
        have cR5 : w10.cell? ⟨w.heap.size, 5, none⟩ = some (.string ⟨#[]⟩ : Value) := (blk_cell HW.out.res 5).trans rfl
        have fR5 := blk_frozen HW.out.res 5
        have cR6 : w10.cell? ⟨w.heap.size, 6, none⟩ = some (.int .i64 0 : Value) := (blk_cell HW.out.res 6).trans rfl
        have fR6 := blk_frozen HW.out.res 6
        have cR7 : w10.cell? ⟨w.heap.size, 7, none⟩ = some (.int .i64 0 : Value) := (blk_cell HW.out.res 7).trans rfl
        have fR7 := blk_frozen HW.out.res 7
        have cT0 : w10.cell? ⟨w7.heap.size, 0, none⟩ = some (.int .u64 x0.1) := (blk_cell HW.out.var 0).trans rfl
        have cT1 : w10.cell? ⟨w7.heap.size, 1, none⟩ = some (.int .u64 x1.1) := (blk_cell HW.out.var 1).trans rfl
        have cT2 : w10.cell? ⟨w7.heap.size, 2, none⟩ = some (.int .u64 x2.1) := (blk_cell HW.out.var 2).trans rfl
        have cT3 : w10.cell? ⟨w7.heap.size, 3, none⟩ = some (.int .u8 (x3.1 % 256)) := (blk_cell HW.out.var 3).trans rfl
        have cT4 : w10.cell? ⟨w7.heap.size, 4, none⟩ = some (.string y0) := (blk_cell HW.out.var 4).trans rfl
        have cT5 : w10.cell? ⟨w7.heap.size, 5, none⟩ = some (.string y1) := (blk_cell HW.out.var 5).trans rfl
        have cT6 : w10.cell? ⟨w7.heap.size, 6, none⟩ = some (.int .i64 (wrap64 x4.1)) := (blk_cell HW.out.var 6).trans rfl
        have cT7 : w10.cell? ⟨w7.heap.size, 7, none⟩ = some (.int .i64 (wrap64 x5.1)) := (blk_cell HW.out.var 7).trans rfl
        go_wp2
        refine bodyPost_ret (results_ct rfl _ _ w.heap.size 77 _ (0, 0) _ rfl (blk_set (blk_set (blk_set (blk_set (blk_set (blk_set (blk_set (blk_set HW.out.res 0 _) 1 _) 2 _) 3 _) 4 _) 5 _) 6 _) 7 _) Try.underlying77 rfl (by kernel_rfl)) rfl ?_
        exact ⟨rfl, (below_set (below_set (below_set (below_set (below_set (below_set (below_set (below_set HW.out.below (Nat.le_refl _)) (Nat.le_refl _)) (Nat.le_refl _)) (Nat.le_refl _)) (Nat.le_refl _)) (Nat.le_refl _)) (Nat.le_refl _)) (Nat.le_refl _))⟩
end Go.Proofs.Ytdpodjgggicaoaa.SS
