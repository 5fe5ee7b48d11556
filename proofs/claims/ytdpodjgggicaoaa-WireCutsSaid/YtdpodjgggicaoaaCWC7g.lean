/- Layer 4's Get, the program's: it is the plain one of H7. -/
import Derived.Test.YtdpodjgggicaoaaCWC7
import Derived.Test.YtdpodjgggicaoaaCWC5b
import Derived.Test.YtdpodjgggicaoaaCWx6
set_option linter.unusedVariables false
set_option linter.unusedSimpArgs false
namespace Go.Proofs.Ytdpodjgggicaoaa.CW
open Go.RowKit Go.Proofs.YtdpodjgggicaoaaW.PrintWords Go.Proofs.YtdpodjgggicaoaaW.PrintLast Go.Proofs.YtdpodjgggicaoaaW.PrintMore Go.Proofs.Ytdpodjgggicaoaa.H

theorem pack_Get_ev (b : List Nat) (at_ size : Int) (hb : isB b) (hl : b.length < 4611686018427387904) : Ev (fun k => pack_Get.f k (rowB b) at_ size) (getR b at_ (cnt size)) := ⟨9, fun k hk => pack_Get_nat k hk b at_ size hb hl⟩
theorem pack_GetText_ev (b : List Nat) (at_ : Int) (hb : isB b) (hl : b.length < 4611686018427387904) : Ev (fun k => pack_GetText.f k (rowB b) at_) (getTR b at_) := ⟨1, fun k hk => pack_GetText_nat k hk b at_ hb hl⟩
theorem getR_in (b : List Nat) (p k : Nat) (h : p + k ≤ b.length) : getR b (p : Int) k = (((num ((b.drop p).take k) : Nat) : Int), true) := by
  unfold getR getN
  rw [if_pos (by omega), Int.toNat_natCast]
/-- What get answers. -/
def resP (r : Except Int PS) : Int × Int × Int × Int × ByteArray × ByteArray × Int × Int × Int := match r with
  | .ok p => ((p.a : Int), (p.b : Int), (p.c : Int), (p.d : Int), txt p.h, txt p.n, p.s, p.t, 0)
  | .error e => (0, 0, 0, 0, ⟨#[]⟩, ⟨#[]⟩, 0, 0, e)
def resG (r : Except Int (List PS)) : List S77 × Int := match r with
  | .ok l => (l.map mkS, 0)
  | .error e => ([], e)
theorem wire_get_ev (b : List Nat) (hb : isB b) (hl : b.length = 75) : Ev (fun k => wire_get.f k (rowB b)) (resP (getP b)) := by
  have c8 : cnt 8 = 8 := rfl
  have c1 : cnt 1 = 1 := rfl
  have g : ∀ (p : Nat) (size : Int) (k : Nat), cnt size = k → p + k ≤ 75 → Ev (fun q => pack_Get.f q (rowB b) (p : Int) size) (((num ((b.drop p).take k) : Nat) : Int), true) := fun p size k hk hp => by
    have := pack_Get_ev b (p : Int) size hb (by omega)
    rwa [hk, getR_in b p k (by omega)] at this
  unfold wire_get.f
  have e0 := g 0 8 8 c8 (by omega)
  rw [List.drop_zero] at e0
  refine Ev.bind e0 (Ev.bind (g 8 8 8 c8 (by omega)) (Ev.bind (g 16 8 8 c8 (by omega)) (Ev.bind (g 24 1 1 c1 (by omega)) (Ev.bind (g 25 8 8 c8 (by omega)) (Ev.bind (g 33 8 8 c8 (by omega)) (Ev.bind (pack_GetText_ev b 41 hb (by omega)) (Ev.bind (pack_GetText_ev b 58 hb (by omega)) ?_)))))))
  unfold getTR getP
  cases h1 : getT b 41 with
  | none => exact Ev.congr (fun k => if_neg (by decide)) (Ev.now _)
  | some hh =>
    cases h2 : getT b 58 with
    | none => exact Ev.congr (f := fun _ => some (resP (Except.error 3))) (fun k => by rw [if_pos rfl, if_neg (by decide)]; rfl) (Ev.now _)
    | some nn =>
      obtain ⟨x1, x2⟩ := getT_isB hb h1
      obtain ⟨y1, y2⟩ := getT_isB hb h2
      have hd : ((num ((b.drop 24).take 1) : Nat) : Int) % 256 = ((num ((b.drop 24).take 1) : Nat) : Int) := by have := num1_lt hb 24; omega
      have hm := span_May_ev ((num (b.take 8) : Nat) : Int) ((num ((b.drop 8).take 8) : Nat) : Int) ((num ((b.drop 16).take 8) : Nat) : Int) ((num ((b.drop 24).take 1) : Nat) : Int) hh nn (wrap64 ((num ((b.drop 25).take 8) : Nat) : Int)) (wrap64 ((num ((b.drop 33).take 8) : Nat) : Int)) x1 (by omega) y1 (by omega)
      refine Ev.congr (f := fun k => (span_May.f k ((num (b.take 8) : Nat) : Int) ((num ((b.drop 8).take 8) : Nat) : Int) ((num ((b.drop 16).take 8) : Nat) : Int) ((num ((b.drop 24).take 1) : Nat) : Int) (txt hh) (txt nn) (wrap64 ((num ((b.drop 25).take 8) : Nat) : Int)) (wrap64 ((num ((b.drop 33).take 8) : Nat) : Int))).bind fun m => if m = true then some (((num (b.take 8) : Nat) : Int), ((num ((b.drop 8).take 8) : Nat) : Int), ((num ((b.drop 16).take 8) : Nat) : Int), ((num ((b.drop 24).take 1) : Nat) : Int), txt hh, txt nn, wrap64 ((num ((b.drop 25).take 8) : Nat) : Int), wrap64 ((num ((b.drop 33).take 8) : Nat) : Int), (0 : Int)) else some ((0 : Int), (0 : Int), (0 : Int), (0 : Int), (⟨#[]⟩ : ByteArray), (⟨#[]⟩ : ByteArray), (0 : Int), (0 : Int), (4 : Int))) (fun k => by
        rw [if_pos rfl, if_pos rfl]
        simp only [hd]) ?_
      refine Ev.bind hm ?_
      cases hmay : mayP (rawP b hh nn) with
      | true =>
        have : mayB ((num (b.take 8) : Nat) : Int) ((num ((b.drop 8).take 8) : Nat) : Int) ((num ((b.drop 16).take 8) : Nat) : Int) ((num ((b.drop 24).take 1) : Nat) : Int) hh nn (wrap64 ((num ((b.drop 25).take 8) : Nat) : Int)) (wrap64 ((num ((b.drop 33).take 8) : Nat) : Int)) = true := hmay
        refine Ev.congr (fun k => if_pos this) (ev_eq (Ev.now _) ?_)
        simp only [hmay, if_true]
        rfl
      | false =>
        have : mayB ((num (b.take 8) : Nat) : Int) ((num ((b.drop 8).take 8) : Nat) : Int) ((num ((b.drop 16).take 8) : Nat) : Int) ((num ((b.drop 24).take 1) : Nat) : Int) hh nn (wrap64 ((num ((b.drop 25).take 8) : Nat) : Int)) (wrap64 ((num ((b.drop 33).take 8) : Nat) : Int)) = false := hmay
        refine Ev.congr (fun k => if_neg (by rw [this]; decide)) (ev_eq (Ev.now _) ?_)
        simp only [hmay]
        rfl
theorem getP_err {b : List Nat} {e : Int} (h : getP b = .error e) : e ≠ 0 := by
  unfold getP at h
  split at h
  · split at h
    · exact absurd h (by simp)
    · rw [← Except.error.inj h]; decide
  · rw [← Except.error.inj h]; decide
/-- What has been read, and what is still to be read. -/
def joinG (acc : List PS) : Except Int (List PS) → Except Int (List PS)
  | .ok l => .ok (acc ++ l)
  | .error e => .error e
theorem wire_Get_l0 : ∀ (c : Nat) (r : List Nat) (acc : List PS), isB r → r.length = 75 * c → acc.length + c ≤ 1000 → Ev (fun k => wire_Get.l0 k (rowB r) (acc.map mkS)) (resG (joinG acc (getsP c r))) := by
  intro c
  induction c with
  | zero =>
    intro r acc hr hl ha
    refine Ev.step (f := fun _ => some (acc.map mkS, 0)) (fun k => by rw [wire_Get.l0, rowB_length, if_neg (by omega)]) (ev_eq (Ev.now _) ?_)
    simp [getsP, joinG, resG]
  | succ c ih =>
    intro r acc hr hl ha
    have hg := wire_get_ev (r.take 75) (isB_take hr 75) (by rw [List.length_take]; omega)
    refine Ev.step (f := fun k => (wire_get.f k (rowB (r.take 75))).bind fun bt260 => (if bt260.2.2.2.2.2.2.2.2 = 0 then (if (acc.map mkS).length < 1759218604441 then (wire_Get.l0 k (rowB (r.drop 75)) (acc.map mkS ++ [(⟨bt260.1, bt260.2.1, bt260.2.2.1, bt260.2.2.2.1, bt260.2.2.2.2.1, bt260.2.2.2.2.2.1, bt260.2.2.2.2.2.2.1, bt260.2.2.2.2.2.2.2.1⟩ : S77)])) else (none)) else (some (([] : List S77), bt260.2.2.2.2.2.2.2.2)))) (fun k => by rw [wire_Get.l0, rowB_length, if_pos (by omega), if_pos (by omega), rowB_take, rowB_drop]) ?_
    refine Ev.bind hg ?_
    rw [getsP]
    cases hp : getP (r.take 75) with
    | error e =>
      have he := getP_err hp
      exact Ev.congr (f := fun _ => some ([], e)) (fun k => if_neg he) (Ev.now _)
    | ok p =>
      have hi := ih (r.drop 75) (acc ++ [p]) (isB_drop hr 75) (by rw [List.length_drop]; omega) (by rw [List.length_append, List.length_singleton]; omega)
      refine Ev.congr (f := fun k => wire_Get.l0 k (rowB (r.drop 75)) ((acc ++ [p]).map mkS)) (fun k => ?_) (ev_eq hi ?_)
      · rw [List.map_append]
        exact (if_pos rfl).trans (if_pos (by rw [List.length_map]; omega))
      · simp only []
        cases getsP c (r.drop 75) with
        | error e => rfl
        | ok l => simp [joinG]
theorem wire_Get_ev (b : List Nat) (hb : isB b) (hl : b.length < 1000000000) : Ev (fun k => wire_Get.f k (rowB b)) (resG (wireGet b)) := by
  have j1 : ∀ x : Int, Ev (fun k => wire_Get.j0 k x (rowB (b.drop 6)) true) (resG (.error 3)) := fun x => Ev.step (f := fun _ => some ([], 3)) (fun k => by rw [wire_Get.j0, if_pos rfl]) (Ev.now _)
  unfold wireGet
  by_cases c0 : b.length < 6
  · rw [if_pos c0]
    exact Ev.congr (f := fun _ => some ([], 2)) (fun k => by rw [wire_Get.f, rowB_length, if_pos (by omega)]) (Ev.now _)
  rw [if_neg c0]
  have hg := pack_Get_ev b ((4 : Nat) : Int) 2 hb (by omega)
  rw [show cnt 2 = 2 from rfl, getR_in b 4 2 (by omega)] at hg
  have hn : num ((b.drop 4).take 2) < 65536 := by
    refine Nat.lt_of_lt_of_le (num_lt _ (isB_take (isB_drop hb 4) 2)) ?_
    exact Nat.le_trans (Nat.pow_le_pow_right (by decide) (List.length_take_le 2 _)) (by decide)
  generalize num ((b.drop 4).take 2) = n at hg hn ⊢
  have hs : ((strOfNums (rowB (b.take 4))).toList = ([83, 80, 65, 78] : List UInt8)) ↔ b.take 4 = spanHead := by
    rw [strOf_rowB, show ([83, 80, 65, 78] : List UInt8) = (txt spanHead).toList by rw [txt_toList]; rfl]
    exact txt_eq_iff (isB_take hb 4) (fun x hx => by simp [spanHead] at hx; omega)
  refine Ev.congr (f := fun k => (pack_Get.f k (rowB b) ((4 : Nat) : Int) 2).bind fun bt243 => (if b.take 4 = spanHead then (if bt243.1 = 0 then (wire_Get.j0 k bt243.1 (rowB (b.drop 6)) (bt243.1 == 0)) else (wire_Get.j0 k bt243.1 (rowB (b.drop 6)) (decide (bt243.1 > 32)))) else (wire_Get.j0 k bt243.1 (rowB (b.drop 6)) true))) (fun k => ?_) ?_
  · rw [wire_Get.f, rowB_length, if_neg (by omega)]
    refine congrArg (Option.bind (pack_Get.f k (rowB b) 4 2)) (funext fun bt => ?_)
    rw [if_pos (by omega), Option.bind_some, if_pos (by omega), Option.bind_some, rowB_drop, rowB_take]
    by_cases c : b.take 4 = spanHead
    · rw [if_pos c, if_pos (hs.2 c)]
    · rw [if_neg c, if_neg (fun h => c (hs.1 h))]
      rw [show ((strOfNums (rowB (b.take 4))).toList != ([83, 80, 65, 78] : List UInt8)) = true from bne_iff_ne.2 (fun h => c (hs.1 h))]
  refine Ev.bind hg ?_
  by_cases c1 : b.take 4 = spanHead
  case neg =>
    rw [if_pos c1]
    exact Ev.congr (fun k => if_neg c1) (j1 _)
  rw [if_neg (fun h => h c1)]
  by_cases c2 : n = 0
  · rw [if_pos c2]
    exact Ev.congr (fun k => by rw [if_pos c1, if_pos (by show ((n : Nat) : Int) = 0; omega), show (((n : Nat) : Int) == 0) = true by rw [beq_iff_eq]; omega]) (j1 _)
  rw [if_neg c2]
  by_cases c3 : 32 < n
  · rw [if_pos c3]
    exact Ev.congr (fun k => by rw [if_pos c1, if_neg (by show ¬ ((n : Nat) : Int) = 0; omega), decide_eq_true (by show ((n : Nat) : Int) > 32; omega)]) (j1 _)
  rw [if_neg c3]
  refine Ev.congr (f := fun k => wire_Get.j0 k (n : Int) (rowB (b.drop 6)) false) (fun k => by rw [if_pos c1, if_neg (by show ¬ ((n : Nat) : Int) = 0; omega), decide_eq_false (by show ¬ ((n : Nat) : Int) > 32; omega)]) ?_
  have hw1 : wrap64 (n : Int) = (n : Int) := w64_ _ (by omega) (by omega)
  have hw : wrap64 (wrap64 (n : Int) * 75) = ((75 * n : Nat) : Int) := by rw [hw1, w64_ _ (by omega) (by omega)]; omega
  by_cases c4 : b.length < 6 + 75 * n
  · rw [if_pos c4]
    exact Ev.step (f := fun _ => some ([], 2)) (fun k => by rw [wire_Get.j0, if_neg (by decide), rowB_length, hw, List.length_drop, if_pos (by omega)]) (Ev.now _)
  rw [if_neg c4]
  by_cases c5 : 6 + 75 * n < b.length
  · rw [if_pos c5]
    exact Ev.step (f := fun _ => some ([], 3)) (fun k => by rw [wire_Get.j0, if_neg (by decide), rowB_length, hw, List.length_drop, if_neg (by omega), if_pos (by omega)]) (Ev.now _)
  rw [if_neg c5]
  have hl0 := wire_Get_l0 n (b.drop 6) [] (isB_drop hb 6) (by rw [List.length_drop]; omega) (by simp; omega)
  refine Ev.step (f := fun k => wire_Get.l0 k (rowB (b.drop 6)) (([] : List PS).map mkS)) (fun k => by rw [wire_Get.j0, if_neg (by decide), rowB_length, hw, List.length_drop, if_neg (by omega), if_neg (by omega)]; rfl) (ev_eq hl0 ?_)
  cases getsP n (b.drop 6) with
  | error e => rfl
  | ok l => rfl
end Go.Proofs.Ytdpodjgggicaoaa.CW
