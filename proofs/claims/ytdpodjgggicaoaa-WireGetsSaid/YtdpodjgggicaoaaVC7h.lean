/- Layer 4's Get, the document's: it is the plain one of H7. -/
import Derived.Test.YtdpodjgggicaoaaVC7g
import Derived.Test.YtdpodjgggicaoaaVC5r
import Derived.Test.YtdpodjgggicaoaaVx10
set_option linter.unusedVariables false
set_option linter.unusedSimpArgs false
namespace Go.Proofs.Ytdpodjgggicaoaa.V
open Go.RowKit Go.Proofs.YtdpodjgggicaoaaW.PrintWords Go.Proofs.YtdpodjgggicaoaaW.PrintLast Go.Proofs.YtdpodjgggicaoaaW.PrintMore Go.Proofs.Ytdpodjgggicaoaa.H

theorem ref2_Get_ev (b : List Nat) (at_ size : Int) (hb : isB b) (hl : b.length < 4611686018427387904) : Ev (fun k => merkhetref02_Get.f k (txt b) at_ size) (getR b at_ (cnt size)) := ⟨10, fun k hk => ref_Get_nat k hk b at_ size hb hl⟩
theorem ref2_GetText_ev (b : List Nat) (at_ : Int) (hb : isB b) (hl : b.length < 4611686018427387904) : Ev (fun k => merkhetref02_GetText.f k (txt b) at_) (getTR b at_) := ⟨20, fun k hk => ref_GetText_nat k hk b at_ hb hl⟩
theorem cut75 (b : List Nat) (p q k : Nat) (hq : q + k ≤ 75) : (((b.drop p).take 75).drop q).take k = (b.drop (p + q)).take k := by
  rw [List.drop_take, List.take_take, Nat.min_eq_left (by omega), List.drop_drop]
theorem getT_cut (b : List Nat) (p q : Nat) (hp : p + 75 ≤ b.length) (hq : q + 17 ≤ 75) : getT b ((p + q : Nat) : Int) = getT ((b.drop p).take 75) (q : Int) := by
  have e : ((b.drop p).take 75).getD q 0 = b.getD (p + q) 0 := by
    simp [List.getD_eq_getElem?_getD, List.getElem?_take, List.getElem?_drop, show q < 75 by omega]
  have hl : ((b.drop p).take 75).length = 75 := by rw [List.length_take, List.length_drop]; omega
  unfold getT
  rw [hl, if_pos (show 0 ≤ ((p + q : Nat) : Int) ∧ ((p + q : Nat) : Int) + 17 ≤ (b.length : Int) by omega), if_pos (show 0 ≤ (q : Int) ∧ (q : Int) + 17 ≤ ((75 : Nat) : Int) by omega), Int.toNat_natCast, Int.toNat_natCast, e, cut75 b p q 17 hq]
theorem getR_cut (b : List Nat) (p q k : Nat) (hp : p + 75 ≤ b.length) (hq : q + k ≤ 75) : getR b ((p + q : Nat) : Int) k = (((num ((((b.drop p).take 75).drop q).take k) : Nat) : Int), true) := by
  rw [getR_in b (p + q) k (by omega), cut75 b p q k hq]
def SZ : List Int := [8, 8, 8, 1, 8, 8]
theorem mod_256 (n : Nat) (h : n < 256) : (n : Int) % 256 = (n : Int) := by omega
theorem len_ok {n : Nat} (h : n ≤ 16) : n < 4611686018427387904 := by omega
theorem w_step (p q k : Nat) (size : Int) (hk : size = (k : Int)) (h : p + q + k < 2000000000) : wrap64 (((p + q : Nat) : Int) + size) = ((p + (q + k) : Nat) : Int) := by
  subst hk
  rw [w64_ _ (by omega) (by omega)]; omega
theorem w_one (i : Nat) (h : i < 6) : wrap64 ((i : Int) + 1) = ((i + 1 : Nat) : Int) := w64_ _ (by omega) (by omega)
theorem w_off (p a c : Nat) (d : Int) (hd : d = (c : Int)) (h : p + a + c < 2000000000) : wrap64 (((p + a : Nat) : Int) + d) = ((p + (a + c) : Nat) : Int) := w_step p a c d hd h
theorem sz_lt (i : Nat) (h : i < 6) : (i : Int) < (SZ.length : Int) := by show (i : Int) < ((6 : Nat) : Int); omega
theorem l1_one (x0 : ByteArray) (x6 : List S77) (x7 : Int) (acc : List Int) (P P1 : Int) (i : Nat) (size v : Int) (hg : Ev (fun n => merkhetref02_Get.f n x0 P size) (v, true)) (hs : rd SZ (i : Int) = size) (hi : i < 6) (e1 : wrap64 (P + size) = P1) (ha : acc.length < 17592186044416) (r : List S77 × Int)
    (h : Ev (fun n => merkhetref04_Get.l1 n x0 x6 x7 (acc ++ [v]) SZ P1 ((i + 1 : Nat) : Int)) r) : Ev (fun n => merkhetref04_Get.l1 n x0 x6 x7 acc SZ P (i : Int)) r := by
  refine Ev.step (f := fun n => (merkhetref02_Get.f n x0 P size).bind fun bt307 => (if acc.length < 17592186044416 then (merkhetref04_Get.l1 n x0 x6 x7 (acc ++ [bt307.1]) SZ P1 ((i + 1 : Nat) : Int)) else (none))) (fun n => by rw [merkhetref04_Get.l1, if_pos (sz_lt i hi), if_pos (Int.natCast_nonneg i), hs, e1, w_one i hi]) ?_
  exact Ev.bind hg (Ev.congr (fun n => if_pos ha) h)
theorem l1_step (b : List Nat) (hb : isB b) (hl : b.length < 1000000000) (x6 : List S77) (x7 : Int) (acc : List Int) (p q i k : Nat) (size : Int) (hs : rd SZ (i : Int) = size) (hk : cnt size = k) (hk2 : size = (k : Int)) (hi : i < 6) (hp : p + 75 ≤ b.length) (hq : q + k ≤ 75) (ha : acc.length ≤ 6) (r : List S77 × Int)
    (h : Ev (fun n => merkhetref04_Get.l1 n (txt b) x6 x7 (acc ++ [((num ((((b.drop p).take 75).drop q).take k) : Nat) : Int)]) SZ ((p + (q + k) : Nat) : Int) ((i + 1 : Nat) : Int)) r) :
    Ev (fun n => merkhetref04_Get.l1 n (txt b) x6 x7 acc SZ ((p + q : Nat) : Int) (i : Int)) r := by
  have hg := ref2_Get_ev b ((p + q : Nat) : Int) size hb (by omega)
  rw [hk, getR_cut b p q k hp hq] at hg
  exact l1_one (txt b) x6 x7 acc _ _ i size _ hg hs hi (w_step p q k size hk2 (by omega)) (by omega) r h
def endM (n : Nat) (x0 : ByteArray) (x6 : List S77) (x7 : Int) (x8 : List Int) (hh nn : ByteArray) : Option (List S77 × Int) := (if 0 < (x8.length : Int) then (if 1 < (x8.length : Int) then (if 2 < (x8.length : Int) then (if 3 < (x8.length : Int) then (if 4 < (x8.length : Int) then (if 5 < (x8.length : Int) then ((merkhetref01_May.f n (rd x8 0) (rd x8 1) (rd x8 2) ((rd x8 3) % 256) hh nn (wrap64 (rd x8 4)) (wrap64 (rd x8 5))).bind fun t324 => (if t324 = true then (if x6.length < 1759218604441 then (merkhetref04_Get.l0 n x0 (x6 ++ [(⟨rd x8 0, rd x8 1, rd x8 2, (rd x8 3) % 256, hh, nn, wrap64 (rd x8 4), wrap64 (rd x8 5)⟩ : S77)]) (wrap64 (x7 + 75))) else (none)) else (some (([] : List (S77)), 4)))) else (none)) else (none)) else (none)) else (none)) else (none)) else (none))
def endT (n : Nat) (x0 : ByteArray) (x6 : List S77) (x7 : Int) (x8 : List Int) (P P1 : Int) : Option (List S77 × Int) := (merkhetref02_GetText.f n x0 P).bind fun bt313 => (if bt313.2 = true then ((merkhetref02_GetText.f n x0 P1).bind fun bt315 => (if bt315.2 = true then endM n x0 x6 x7 x8 bt313.1 bt315.1 else (some (([] : List (S77)), 3)))) else (some (([] : List (S77)), 3)))
theorem l1_tail (n : Nat) (x0 : ByteArray) (x6 : List S77) (x7 : Int) (x8 : List Int) (P P1 : Int) (e : wrap64 (P + 17) = P1) : merkhetref04_Get.l1 (n + 1) x0 x6 x7 x8 SZ P 6 = endT n x0 x6 x7 x8 P P1 := by
  rw [merkhetref04_Get.l1, if_neg (by decide), e]; rfl
theorem endT_none1 (x0 : ByteArray) (x6 : List S77) (x7 : Int) (x8 : List Int) (P P1 : Int) (s : ByteArray) (h1 : Ev (fun n => merkhetref02_GetText.f n x0 P) (s, false)) : Ev (fun n => endT n x0 x6 x7 x8 P P1) (([] : List (S77)), 3) := by
  unfold endT
  exact Ev.bind h1 (Ev.congr (fun n => if_neg Bool.false_ne_true) (Ev.now _))
theorem endT_none2 (x0 : ByteArray) (x6 : List S77) (x7 : Int) (x8 : List Int) (P P1 : Int) (s t : ByteArray) (h1 : Ev (fun n => merkhetref02_GetText.f n x0 P) (s, true)) (h2 : Ev (fun n => merkhetref02_GetText.f n x0 P1) (t, false)) : Ev (fun n => endT n x0 x6 x7 x8 P P1) (([] : List (S77)), 3) := by
  unfold endT
  exact Ev.bind h1 (Ev.congr (fun n => if_pos rfl) (Ev.bind h2 (Ev.congr (fun n => if_neg Bool.false_ne_true) (Ev.now _))))
theorem endT_some (x0 : ByteArray) (x6 : List S77) (x7 : Int) (x8 : List Int) (P P1 : Int) (s t : ByteArray) (r : List S77 × Int) (h1 : Ev (fun n => merkhetref02_GetText.f n x0 P) (s, true)) (h2 : Ev (fun n => merkhetref02_GetText.f n x0 P1) (t, true)) (h : Ev (fun n => endM n x0 x6 x7 x8 s t) r) : Ev (fun n => endT n x0 x6 x7 x8 P P1) r := by
  unfold endT
  exact Ev.bind h1 (Ev.congr (fun n => if_pos rfl) (Ev.bind h2 (Ev.congr (fun n => if_pos rfl) h)))
theorem endM_six (n : Nat) (x0 : ByteArray) (x6 : List S77) (x7 X7 v0 v1 v2 v3 v4 v5 : Int) (hh nn : ByteArray) (h3 : v3 % 256 = v3) (e : wrap64 (x7 + 75) = X7) : endM n x0 x6 x7 [v0, v1, v2, v3, v4, v5] hh nn = ((merkhetref01_May.f n v0 v1 v2 v3 hh nn (wrap64 v4) (wrap64 v5)).bind fun t324 => (if t324 = true then (if x6.length < 1759218604441 then (merkhetref04_Get.l0 n x0 (x6 ++ [(⟨v0, v1, v2, v3, hh, nn, wrap64 v4, wrap64 v5⟩ : S77)]) X7) else (none)) else (some (([] : List (S77)), 4)))) := by
  unfold endM
  have L : (([v0, v1, v2, v3, v4, v5] : List Int).length : Int) = 6 := rfl
  rw [L, if_pos (show (0 : Int) < 6 by decide), if_pos (show (1 : Int) < 6 by decide), if_pos (show (2 : Int) < 6 by decide), if_pos (show (3 : Int) < 6 by decide), if_pos (show (4 : Int) < 6 by decide), if_pos (show (5 : Int) < 6 by decide), e]
  show (merkhetref01_May.f n v0 v1 v2 (v3 % 256) hh nn (wrap64 v4) (wrap64 v5)).bind (fun t324 => (if t324 = true then (if x6.length < 1759218604441 then (merkhetref04_Get.l0 n x0 (x6 ++ [(⟨v0, v1, v2, v3 % 256, hh, nn, wrap64 v4, wrap64 v5⟩ : S77)]) X7) else (none)) else (some (([] : List (S77)), 4)))) = _
  rw [h3]
theorem l1_end (b : List Nat) (hb : isB b) (hl : b.length < 1000000000) (acc : List PS) (p : Nat) (hp : p + 75 ≤ b.length) (ha : acc.length ≤ 1000) (r : List S77 × Int)
    (h : ∀ q, getP ((b.drop p).take 75) = .ok q → Ev (fun n => merkhetref04_Get.l0 n (txt b) ((acc ++ [q]).map mkS) ((p + 75 : Nat) : Int)) r) (he : ∀ e, getP ((b.drop p).take 75) = .error e → r = ([], e)) :
    Ev (fun n => merkhetref04_Get.l1 n (txt b) (acc.map mkS) (p : Int) [((num ((((b.drop p).take 75).drop 0).take 8) : Nat) : Int), ((num ((((b.drop p).take 75).drop 8).take 8) : Nat) : Int), ((num ((((b.drop p).take 75).drop 16).take 8) : Nat) : Int), ((num ((((b.drop p).take 75).drop 24).take 1) : Nat) : Int), ((num ((((b.drop p).take 75).drop 25).take 8) : Nat) : Int), ((num ((((b.drop p).take 75).drop 33).take 8) : Nat) : Int)] SZ ((p + 41 : Nat) : Int) 6) r := by
  have t1 := ref2_GetText_ev b ((p + 41 : Nat) : Int) hb (by omega)
  have t2 := ref2_GetText_ev b ((p + 58 : Nat) : Int) hb (by omega)
  have hc := isB_take (isB_drop hb p) 75
  refine Ev.step (f := fun n => endT n (txt b) (acc.map mkS) (p : Int) _ ((p + 41 : Nat) : Int) ((p + 58 : Nat) : Int)) (fun n => l1_tail n _ _ _ _ _ _ (w_step p 41 17 17 rfl (by omega))) ?_
  unfold getTR at t1 t2
  rw [getT_cut b p 41 hp (by omega)] at t1
  rw [getT_cut b p 58 hp (by omega)] at t2
  rw [List.drop_zero]
  unfold getP at h he
  generalize hcc : (b.drop p).take 75 = c at *
  cases h1 : getT c ((41 : Nat) : Int) with
  | none =>
    have h1' : getT c 41 = none := h1
    rw [h1] at t1
    obtain rfl := he 3 (by rw [h1'])
    exact endT_none1 _ _ _ _ _ _ _ t1
  | some hh =>
    have h1' : getT c 41 = some hh := h1
    rw [h1] at t1
    cases h2 : getT c ((58 : Nat) : Int) with
    | none =>
      have h2' : getT c 58 = none := h2
      rw [h2] at t2
      obtain rfl := he 3 (by rw [h1', h2'])
      exact endT_none2 _ _ _ _ _ _ _ _ t1 t2
    | some nn =>
      have h2' : getT c 58 = some nn := h2
      rw [h2] at t2
      rw [h1', h2'] at h he
      obtain ⟨x1, x2⟩ := getT_isB hc h1
      obtain ⟨y1, y2⟩ := getT_isB hc h2
      have hn1 := num1_lt hc 24
      have hd : ((num ((c.drop 24).take 1) : Nat) : Int) % 256 = ((num ((c.drop 24).take 1) : Nat) : Int) := mod_256 _ hn1
      have hm := ref_May_ev ((num (c.take 8) : Nat) : Int) ((num ((c.drop 8).take 8) : Nat) : Int) ((num ((c.drop 16).take 8) : Nat) : Int) ((num ((c.drop 24).take 1) : Nat) : Int) hh nn (wrap64 ((num ((c.drop 25).take 8) : Nat) : Int)) (wrap64 ((num ((c.drop 33).take 8) : Nat) : Int)) (Int.natCast_nonneg _) x1 (len_ok x2) y1 (len_ok y2)
      refine endT_some _ _ _ _ _ _ _ _ _ t1 t2 (Ev.congr (fun n => endM_six n _ _ _ _ _ _ _ _ _ _ _ _ hd (w_step p 0 75 75 rfl (by omega))) ?_)
      refine Ev.bind hm ?_
      cases hmay : mayP (rawP c hh nn) with
      | true =>
        have hmm : mayB ((num (c.take 8) : Nat) : Int) ((num ((c.drop 8).take 8) : Nat) : Int) ((num ((c.drop 16).take 8) : Nat) : Int) ((num ((c.drop 24).take 1) : Nat) : Int) hh nn (wrap64 ((num ((c.drop 25).take 8) : Nat) : Int)) (wrap64 ((num ((c.drop 33).take 8) : Nat) : Int)) = true := hmay
        refine Ev.congr (f := fun n => merkhetref04_Get.l0 n (txt b) ((acc ++ [rawP c hh nn]).map mkS) ((p + 75 : Nat) : Int)) (fun n => ?_) (h (rawP c hh nn) (by simp only [hmay, if_true]))
        rw [if_pos hmm, if_pos (by rw [List.length_map]; exact Nat.lt_of_le_of_lt ha (by decide)), List.map_append]
        rfl
      | false =>
        have hmm : mayB ((num (c.take 8) : Nat) : Int) ((num ((c.drop 8).take 8) : Nat) : Int) ((num ((c.drop 16).take 8) : Nat) : Int) ((num ((c.drop 24).take 1) : Nat) : Int) hh nn (wrap64 ((num ((c.drop 25).take 8) : Nat) : Int)) (wrap64 ((num ((c.drop 33).take 8) : Nat) : Int)) = false := hmay
        obtain rfl := he 4 (by simp only [hmay]; rfl)
        exact Ev.congr (fun n => if_neg (by rw [hmm]; decide)) (Ev.now _)
theorem ref_Get_l0 (b : List Nat) (hb : isB b) (hl : b.length < 1000000000) : ∀ (c p : Nat) (acc : List PS), p + 75 * c = b.length → acc.length + c ≤ 1000 → Ev (fun n => merkhetref04_Get.l0 n (txt b) (acc.map mkS) (p : Int)) (resG (joinG acc (getsP c (b.drop p)))) := by
  intro c
  induction c with
  | zero =>
    intro p acc hp ha
    refine Ev.step (f := fun _ => some (acc.map mkS, 0)) (fun k => by rw [merkhetref04_Get.l0, txt_size, if_neg (by omega)]) (ev_eq (Ev.now _) ?_)
    simp [getsP, joinG, resG]
  | succ c ih =>
    intro p acc hp ha
    refine Ev.step (f := fun n => merkhetref04_Get.l1 n (txt b) (acc.map mkS) (p : Int) [] SZ ((p + 0 : Nat) : Int) ((0 : Nat) : Int)) (fun n => by rw [merkhetref04_Get.l0, txt_size, if_pos (by omega)]; rfl) ?_
    refine l1_step b hb hl _ _ [] p 0 0 8 8 rfl rfl rfl (by decide) (by omega) (by decide) (by simp) _ ?_
    refine l1_step b hb hl _ _ _ p 8 1 8 8 rfl rfl rfl (by decide) (by omega) (by decide) (by simp) _ ?_
    refine l1_step b hb hl _ _ _ p 16 2 8 8 rfl rfl rfl (by decide) (by omega) (by decide) (by simp) _ ?_
    refine l1_step b hb hl _ _ _ p 24 3 1 1 rfl rfl rfl (by decide) (by omega) (by decide) (by simp) _ ?_
    refine l1_step b hb hl _ _ _ p 25 4 8 8 rfl rfl rfl (by decide) (by omega) (by decide) (by simp) _ ?_
    refine l1_step b hb hl _ _ _ p 33 5 8 8 rfl rfl rfl (by decide) (by omega) (by decide) (by simp) _ ?_
    refine l1_end b hb hl acc p (by omega) (by omega) _ (fun q hq => ?_) (fun e hq => ?_)
    · have := ih (p + 75) (acc ++ [q]) (by omega) (by rw [List.length_append, List.length_singleton]; omega)
      refine ev_eq this ?_
      rw [getsP, hq, List.drop_drop]
      simp only []
      cases getsP c (b.drop (p + 75)) with
      | error e => rfl
      | ok l => simp [joinG]
    · rw [getsP, hq]; rfl
theorem ref_Get4_ev (b : List Nat) (hb : isB b) (hl : b.length < 1000000000) : Ev (fun n => merkhetref04_Get.f n (txt b)) (resG (wireGet b)) := by
  have j1 : ∀ x : Int, Ev (fun n => merkhetref04_Get.j0 n (txt b) x true) (resG (.error 3)) := fun x => Ev.step (f := fun _ => some ([], 3)) (fun n => by rw [merkhetref04_Get.j0, if_pos rfl]) (Ev.now _)
  unfold wireGet
  by_cases c0 : b.length < 6
  · rw [if_pos c0]
    exact Ev.congr (f := fun _ => some ([], 2)) (fun n => by rw [merkhetref04_Get.f, txt_size, if_pos (by omega)]) (Ev.now _)
  rw [if_neg c0]
  have hg := ref2_Get_ev b ((4 : Nat) : Int) 2 hb (by omega)
  rw [show cnt 2 = 2 from rfl, getR_in b 4 2 (by omega)] at hg
  have hn : num ((b.drop 4).take 2) < 65536 := by
    refine Nat.lt_of_lt_of_le (num_lt _ (isB_take (isB_drop hb 4) 2)) ?_
    exact Nat.le_trans (Nat.pow_le_pow_right (by decide) (List.length_take_le 2 _)) (by decide)
  generalize num ((b.drop 4).take 2) = m at hg hn ⊢
  have hx : (txt b).extract 0 4 = txt (b.take 4) := by
    have := txt_extract b 0 4
    rw [this]; rfl
  have hs : (((txt b).extract 0 4).toList = ([83, 80, 65, 78] : List UInt8)) ↔ b.take 4 = spanHead := by
    rw [hx, show ([83, 80, 65, 78] : List UInt8) = (txt spanHead).toList by rw [txt_toList]; rfl]
    exact txt_eq_iff (isB_take hb 4) (fun x hx => by simp [spanHead] at hx; omega)
  by_cases c1 : b.take 4 = spanHead
  case neg =>
    rw [if_pos c1]
    exact Ev.congr (f := fun _ => some ([], 3)) (fun n => by rw [merkhetref04_Get.f, txt_size, if_neg (by omega), if_pos (by decide), if_pos (by omega), if_neg (fun h => c1 (hs.1 h))]) (Ev.now _)
  rw [if_neg (fun h => h c1)]
  refine Ev.congr (f := fun n => (merkhetref02_Get.f n (txt b) ((4 : Nat) : Int) 2).bind fun bt295 => (if bt295.1 = 0 then (merkhetref04_Get.j0 n (txt b) bt295.1 true) else (merkhetref04_Get.j0 n (txt b) bt295.1 (decide (bt295.1 > 32))))) (fun n => by rw [merkhetref04_Get.f, txt_size, if_neg (by omega), if_pos (by decide), if_pos (by omega), if_pos (hs.2 c1)]; rfl) ?_
  refine Ev.bind hg ?_
  by_cases c2 : m = 0
  · rw [if_pos c2]
    exact Ev.congr (fun n => if_pos (by show ((m : Nat) : Int) = 0; omega)) (j1 _)
  rw [if_neg c2]
  by_cases c3 : 32 < m
  · rw [if_pos c3]
    exact Ev.congr (fun n => by rw [if_neg (by show ¬ ((m : Nat) : Int) = 0; omega), decide_eq_true (by show ((m : Nat) : Int) > 32; omega)]) (j1 _)
  rw [if_neg c3]
  refine Ev.congr (f := fun n => merkhetref04_Get.j0 n (txt b) (m : Int) false) (fun n => by rw [if_neg (by show ¬ ((m : Nat) : Int) = 0; omega), decide_eq_false (by show ¬ ((m : Nat) : Int) > 32; omega)]) ?_
  have hw1 : wrap64 (m : Int) = (m : Int) := w64_ _ (by omega) (by omega)
  have hw2 : wrap64 (75 * (m : Int)) = ((75 * m : Nat) : Int) := by rw [w64_ _ (by omega) (by omega)]; omega
  have hw3 : wrap64 (6 + ((75 * m : Nat) : Int)) = ((6 + 75 * m : Nat) : Int) := by rw [w64_ _ (by omega) (by omega)]; omega
  by_cases c4 : b.length < 6 + 75 * m
  · rw [if_pos c4]
    exact Ev.step (f := fun _ => some ([], 2)) (fun n => by rw [merkhetref04_Get.j0, if_neg (by decide), txt_size, hw1, hw2, hw3, if_pos (by omega)]) (Ev.now _)
  rw [if_neg c4]
  by_cases c5 : 6 + 75 * m < b.length
  · rw [if_pos c5]
    exact Ev.step (f := fun _ => some ([], 3)) (fun n => by rw [merkhetref04_Get.j0, if_neg (by decide), txt_size, hw1, hw2, hw3, if_neg (by omega), if_pos (by omega)]) (Ev.now _)
  rw [if_neg c5]
  have hl0 := ref_Get_l0 b hb hl m 6 [] (by omega) (by simp; omega)
  refine Ev.step (f := fun n => merkhetref04_Get.l0 n (txt b) (([] : List PS).map mkS) ((6 : Nat) : Int)) (fun n => by rw [merkhetref04_Get.j0, if_neg (by decide), txt_size, hw1, hw2, hw3, if_neg (by omega), if_neg (by omega)]; rfl) (ev_eq hl0 ?_)
  cases getsP m (b.drop 6) with
  | error e => rfl
  | ok l => rfl
end Go.Proofs.Ytdpodjgggicaoaa.V
