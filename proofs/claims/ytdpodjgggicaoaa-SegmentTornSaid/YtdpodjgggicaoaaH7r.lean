/- The plain mathematics of layer 4: spans and batches as bytes, and read again. -/
import Derived.Test.YtdpodjgggicaoaaH4r
import Derived.Test.YtdpodjgggicaoaaH6r
set_option linter.unusedVariables false
namespace Go.Proofs.Ytdpodjgggicaoaa.H
open Go.RowKit Go.Proofs.YtdpodjgggicaoaaW.PrintWords
structure PS where
  a : Nat
  b : Nat
  c : Nat
  d : Nat
  h : List Nat
  n : List Nat
  s : Int
  t : Int
deriving DecidableEq
structure PS.good (p : PS) : Prop where
  a : p.a < 18446744073709551616
  b : p.b < 18446744073709551616
  c : p.c < 18446744073709551616
  d : p.d < 256
  h : isB p.h
  hl : p.h.length ≤ 9223372036854775807
  n : isB p.n
  nl : p.n.length ≤ 9223372036854775807
  s0 : -9223372036854775808 ≤ p.s
  s1 : p.s < 9223372036854775808
  t0 : -9223372036854775808 ≤ p.t
  t1 : p.t < 9223372036854775808
def mayP (p : PS) : Bool := mayB p.a p.b p.c p.d p.h p.n p.s p.t
def u64n (x : Int) : Nat := (x % 18446744073709551616).toNat
theorem u64n_lt (x : Int) : u64n x < 18446744073709551616 := by unfold u64n; omega
theorem wrap_u64n (x : Int) (h0 : -9223372036854775808 ≤ x) (h1 : x < 9223372036854775808) : wrap64 (u64n x : Int) = x := by unfold u64n wrap64; omega
def bytesP (p : PS) : List Nat := nb 8 p.a ++ nb 8 p.b ++ nb 8 p.c ++ nb 1 p.d ++ nb 8 (u64n p.s) ++ nb 8 (u64n p.t) ++ field p.h ++ field p.n
theorem bytesP_isB (p : PS) (g : p.good) : isB (bytesP p) := by
  unfold bytesP
  exact isB_append (isB_append (isB_append (isB_append (isB_append (isB_append (isB_append (nb_isB _ _) (nb_isB _ _)) (nb_isB _ _)) (nb_isB _ _)) (nb_isB _ _)) (nb_isB _ _)) (field_isB g.h)) (field_isB g.n)
theorem nameB_len {m : List Nat} (h : nameB m = true) : 1 ≤ m.length ∧ m.length ≤ 16 := by
  unfold nameB at h
  simp only [Bool.and_eq_true, decide_eq_true_eq] at h
  exact ⟨h.1.1, h.1.2⟩
theorem mayP_names {p : PS} (h : mayP p = true) : nameB p.h = true ∧ nameB p.n = true := by
  unfold mayP mayB at h
  simp only [Bool.and_eq_true] at h
  exact ⟨h.1.2, h.2⟩
theorem bytesP_length {p : PS} (h : p.h.length ≤ 16) (n : p.n.length ≤ 16) : (bytesP p).length = 75 := by
  unfold bytesP
  simp only [List.length_append, nb_length, field_length h, field_length n]
def rawP (b h n : List Nat) : PS := ⟨num (b.take 8), num ((b.drop 8).take 8), num ((b.drop 16).take 8), num ((b.drop 24).take 1), h, n, wrap64 (num ((b.drop 25).take 8) : Int), wrap64 (num ((b.drop 33).take 8) : Int)⟩
def getP (b : List Nat) : Except Int PS :=
  match getT b 41, getT b 58 with
  | some h, some n => if mayP (rawP b h n) = true then .ok (rawP b h n) else .error 4
  | _, _ => .error 3
theorem num1_lt {m : List Nat} (h : isB m) (k : Nat) : num ((m.drop k).take 1) < 256 := by
  refine Nat.lt_of_lt_of_le (num_lt _ (isB_take (isB_drop h k) 1)) ?_
  refine Nat.le_trans (Nat.pow_le_pow_right (by decide) (List.length_take_le 1 _)) (by decide)
theorem getT_isB {b s : List Nat} {at_ : Int} (hb : isB b) (h : getT b at_ = some s) : isB s ∧ s.length ≤ 16 := by
  unfold getT at h
  split at h
  · split at h
    · rename_i h2
      have e := Option.some.inj h
      rw [← e]
      refine ⟨isB_take ?_ _, ?_⟩
      · intro x hx
        exact isB_take (isB_drop hb _) 17 x (List.mem_of_mem_tail hx)
      · rw [List.length_take]; have := h2.1; omega
    · exact absurd h (by simp)
  · exact absurd h (by simp)
theorem cut_mid (x y z : List Nat) : ((x ++ y ++ z).drop x.length).take y.length = y := by
  rw [List.append_assoc, List.drop_left, List.take_left]
theorem getP_bytes {p : PS} (g : p.good) (m : mayP p = true) : getP (bytesP p) = .ok p := by
  obtain ⟨m1, m2⟩ := mayP_names m
  have l1 := (nameB_len m1).2
  have l2 := (nameB_len m2).2
  have e1 : getT (bytesP p) 41 = some p.h := by
    have := getT_put (nb 8 p.a ++ nb 8 p.b ++ nb 8 p.c ++ nb 1 p.d ++ nb 8 (u64n p.s) ++ nb 8 (u64n p.t)) p.h (field p.n) l1
    rw [show (((nb 8 p.a ++ nb 8 p.b ++ nb 8 p.c ++ nb 1 p.d ++ nb 8 (u64n p.s) ++ nb 8 (u64n p.t)).length : Nat) : Int) = 41 by simp only [List.length_append, nb_length]; rfl] at this
    exact this
  have e2 : getT (bytesP p) 58 = some p.n := by
    have := getT_put (nb 8 p.a ++ nb 8 p.b ++ nb 8 p.c ++ nb 1 p.d ++ nb 8 (u64n p.s) ++ nb 8 (u64n p.t) ++ field p.h) p.n [] l2
    rw [List.append_nil] at this
    rw [show (((nb 8 p.a ++ nb 8 p.b ++ nb 8 p.c ++ nb 1 p.d ++ nb 8 (u64n p.s) ++ nb 8 (u64n p.t) ++ field p.h).length : Nat) : Int) = 58 by simp only [List.length_append, nb_length, field_length l1]; rfl] at this
    exact this
  have c0 : (bytesP p).take 8 = nb 8 p.a := by
    unfold bytesP
    simp only [List.append_assoc]
    exact List.take_left' (nb_length _ _)
  have c8 : ((bytesP p).drop 8).take 8 = nb 8 p.b := by
    have := cut_mid (nb 8 p.a) (nb 8 p.b) (nb 8 p.c ++ nb 1 p.d ++ nb 8 (u64n p.s) ++ nb 8 (u64n p.t) ++ field p.h ++ field p.n)
    simpa only [bytesP, List.append_assoc, List.length_append, nb_length] using this
  have c16 : ((bytesP p).drop 16).take 8 = nb 8 p.c := by
    have := cut_mid (nb 8 p.a ++ nb 8 p.b) (nb 8 p.c) (nb 1 p.d ++ nb 8 (u64n p.s) ++ nb 8 (u64n p.t) ++ field p.h ++ field p.n)
    simpa only [bytesP, List.append_assoc, List.length_append, nb_length] using this
  have c24 : ((bytesP p).drop 24).take 1 = nb 1 p.d := by
    have := cut_mid (nb 8 p.a ++ nb 8 p.b ++ nb 8 p.c) (nb 1 p.d) (nb 8 (u64n p.s) ++ nb 8 (u64n p.t) ++ field p.h ++ field p.n)
    simpa only [bytesP, List.append_assoc, List.length_append, nb_length] using this
  have c25 : ((bytesP p).drop 25).take 8 = nb 8 (u64n p.s) := by
    have := cut_mid (nb 8 p.a ++ nb 8 p.b ++ nb 8 p.c ++ nb 1 p.d) (nb 8 (u64n p.s)) (nb 8 (u64n p.t) ++ field p.h ++ field p.n)
    simpa only [bytesP, List.append_assoc, List.length_append, nb_length] using this
  have c33 : ((bytesP p).drop 33).take 8 = nb 8 (u64n p.t) := by
    have := cut_mid (nb 8 p.a ++ nb 8 p.b ++ nb 8 p.c ++ nb 1 p.d ++ nb 8 (u64n p.s)) (nb 8 (u64n p.t)) (field p.h ++ field p.n)
    simpa only [bytesP, List.append_assoc, List.length_append, nb_length] using this
  have p8 : (256 : Nat) ^ 8 = 18446744073709551616 := by decide
  have hraw : rawP (bytesP p) p.h p.n = p := by
    unfold rawP
    rw [c0, c8, c16, c24, c25, c33]
    simp only [num_nb, p8, Nat.pow_one]
    rw [Nat.mod_eq_of_lt g.a, Nat.mod_eq_of_lt g.b, Nat.mod_eq_of_lt g.c, Nat.mod_eq_of_lt g.d, Nat.mod_eq_of_lt (u64n_lt _), Nat.mod_eq_of_lt (u64n_lt _), wrap_u64n _ g.s0 g.s1, wrap_u64n _ g.t0 g.t1]
  unfold getP
  rw [e1, e2]
  simp only [hraw, m, if_true]
def getsP : Nat → List Nat → Except Int (List PS)
  | 0, _ => .ok []
  | c + 1, r => match getP (r.take 75) with
    | .error e => .error e
    | .ok p => match getsP c (r.drop 75) with
      | .error e => .error e
      | .ok l => .ok (p :: l)
def spanHead : List Nat := [83, 80, 65, 78]
def wirePut (l : List PS) : List Nat × Int := if 1 ≤ l.length ∧ l.length ≤ 32 ∧ l.all mayP = true then (spanHead ++ nb 2 l.length ++ l.flatMap bytesP, 0) else ([], 1)
def wireGet (b : List Nat) : Except Int (List PS) :=
  if b.length < 6 then .error 2 else
  if b.take 4 ≠ spanHead then .error 3 else
  if num ((b.drop 4).take 2) = 0 then .error 3 else
  if 32 < num ((b.drop 4).take 2) then .error 3 else
  if b.length < 6 + 75 * num ((b.drop 4).take 2) then .error 2 else
  if 6 + 75 * num ((b.drop 4).take 2) < b.length then .error 3 else getsP (num ((b.drop 4).take 2)) (b.drop 6)
theorem flat_length {l : List PS} (h : l.all mayP = true) : (l.flatMap bytesP).length = 75 * l.length := by
  induction l with
  | nil => rfl
  | cons p r ih =>
    rw [List.all_cons, Bool.and_eq_true] at h
    obtain ⟨m1, m2⟩ := mayP_names h.1
    rw [List.flatMap_cons, List.length_append, bytesP_length (nameB_len m1).2 (nameB_len m2).2, ih h.2, List.length_cons]
    omega
theorem flat_isB {l : List PS} (g : ∀ p ∈ l, p.good) : isB (l.flatMap bytesP) := by
  induction l with
  | nil => exact isB_nil
  | cons p r ih =>
    rw [List.flatMap_cons]
    exact isB_append (bytesP_isB p (g p (by simp))) (ih (fun q hq => g q (by simp [hq])))
theorem getsP_flat {l : List PS} (g : ∀ p ∈ l, p.good) (h : l.all mayP = true) (more : List Nat) : getsP l.length (l.flatMap bytesP ++ more) = .ok l := by
  induction l with
  | nil => rfl
  | cons p r ih =>
    rw [List.all_cons, Bool.and_eq_true] at h
    obtain ⟨m1, m2⟩ := mayP_names h.1
    have hl := bytesP_length (nameB_len m1).2 (nameB_len m2).2
    rw [List.length_cons, getsP, List.flatMap_cons, List.append_assoc, List.take_left' hl, List.drop_left' hl, getP_bytes (g p (by simp)) h.1]
    simp only []
    rw [ih (fun q hq => g q (by simp [hq])) h.2]
theorem put_parts {l : List PS} (h : 1 ≤ l.length ∧ l.length ≤ 32 ∧ l.all mayP = true) (more : List Nat) :
    (spanHead ++ nb 2 l.length ++ l.flatMap bytesP ++ more).take 4 = spanHead ∧ num (((spanHead ++ nb 2 l.length ++ l.flatMap bytesP ++ more).drop 4).take 2) = l.length ∧ (spanHead ++ nb 2 l.length ++ l.flatMap bytesP ++ more).drop 6 = l.flatMap bytesP ++ more ∧ (spanHead ++ nb 2 l.length ++ l.flatMap bytesP ++ more).length = 6 + 75 * l.length + more.length := by
  have hs : spanHead.length = 4 := rfl
  refine ⟨?_, ?_, ?_, ?_⟩
  · simp only [List.append_assoc]
    exact List.take_left' hs
  · simp only [List.append_assoc]
    rw [List.drop_left' hs, List.take_left' (nb_length _ _), num_nb]
    have := h.2.1
    have e : (256 : Nat) ^ 2 = 65536 := by decide
    rw [e]; omega
  · have : (spanHead ++ nb 2 l.length ++ l.flatMap bytesP ++ more) = (spanHead ++ nb 2 l.length) ++ (l.flatMap bytesP ++ more) := by simp only [List.append_assoc]
    rw [this]
    exact List.drop_left' (by rw [List.length_append, nb_length]; rfl)
  · simp only [List.length_append, nb_length, hs, flat_length h.2.2]
theorem wireGet_put {l : List PS} (g : ∀ p ∈ l, p.good) (h : (wirePut l).2 = 0) : wireGet (wirePut l).1 = .ok l := by
  unfold wirePut at h ⊢
  split at h
  · rename_i hc
    rw [if_pos hc]
    obtain ⟨p1, p2, p3, p4⟩ := put_parts hc []
    rw [List.append_nil] at p1 p2 p3 p4
    have h1 := hc.1
    have h2 := hc.2.1
    unfold wireGet
    rw [p2, p3, p4, List.length_nil, if_neg (by omega), if_neg (by rw [p1]; simp), if_neg (by omega), if_neg (by omega), if_neg (by omega), if_neg (by omega)]
    exact getsP_flat g hc.2.2 []
  · exact absurd h (by simp)
theorem wirePut_isB {l : List PS} (g : ∀ p ∈ l, p.good) : isB (wirePut l).1 := by
  unfold wirePut
  split
  · exact isB_append (isB_append (fun x hx => by simp [spanHead] at hx; omega) (nb_isB _ _)) (flat_isB g)
  · exact isB_nil
theorem wirePut_length (l : List PS) : (wirePut l).1.length ≤ 2406 := by
  unfold wirePut
  split
  · rename_i h
    have := (put_parts h []).2.2.2
    rw [List.append_nil, List.length_nil] at this
    rw [this]; have := h.2.1; omega
  · simp
end Go.Proofs.Ytdpodjgggicaoaa.H
