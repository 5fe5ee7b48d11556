/- The plain mathematics of layer 4: spans and batches as bytes, and read again. -/
import Derived.Test.YtdpodjgggicaoaaH4q
import Derived.Test.YtdpodjgggicaoaaH6q
set_option linter.unusedVariables false
namespace Go.Proofs.Ytdpodjgggicaoaa.H
open Go.RowKit Go.Proofs.YtdpodjgggicaoaaW.PrintWords
structure PS where
  a : Nat
  b : Nat
  c : Nat
  d : Nat
  h : List Nat
  n : List Nat
  s : Int
  t : Int
deriving DecidableEq
structure PS.good (p : PS) : Prop where
  a : p.a < 18446744073709551616
  b : p.b < 18446744073709551616
  c : p.c < 18446744073709551616
  d : p.d < 256
  h : isB p.h
  hl : p.h.length ≤ 9223372036854775807
  n : isB p.n
  nl : p.n.length ≤ 9223372036854775807
  s0 : -9223372036854775808 ≤ p.s
  s1 : p.s < 9223372036854775808
  t0 : -9223372036854775808 ≤ p.t
  t1 : p.t < 9223372036854775808
def mayP (p : PS) : Bool := mayB p.a p.b p.c p.d p.h p.n p.s p.t
def rawP (b h n : List Nat) : PS := ⟨num (b.take 8), num ((b.drop 8).take 8), num ((b.drop 16).take 8), num ((b.drop 24).take 1), h, n, wrap64 (num ((b.drop 25).take 8) : Int), wrap64 (num ((b.drop 33).take 8) : Int)⟩
def getP (b : List Nat) : Except Int PS :=
  match getT b 41, getT b 58 with
  | some h, some n => if mayP (rawP b h n) = true then .ok (rawP b h n) else .error 4
  | _, _ => .error 3
theorem num1_lt {m : List Nat} (h : isB m) (k : Nat) : num ((m.drop k).take 1) < 256 := by
  refine Nat.lt_of_lt_of_le (num_lt _ (isB_take (isB_drop h k) 1)) ?_
  refine Nat.le_trans (Nat.pow_le_pow_right (by decide) (List.length_take_le 1 _)) (by decide)
theorem getT_isB {b s : List Nat} {at_ : Int} (hb : isB b) (h : getT b at_ = some s) : isB s ∧ s.length ≤ 16 := by
  unfold getT at h
  split at h
  · split at h
    · rename_i h2
      have e := Option.some.inj h
      rw [← e]
      refine ⟨isB_take ?_ _, ?_⟩
      · intro x hx
        exact isB_take (isB_drop hb _) 17 x (List.mem_of_mem_tail hx)
      · rw [List.length_take]; have := h2.1; omega
    · exact absurd h (by simp)
  · exact absurd h (by simp)
theorem take_split (b : List Nat) (i j : Nat) : b.take (i + j) = b.take i ++ (b.drop i).take j := by rw [List.take_add]
def getsP : Nat → List Nat → Except Int (List PS)
  | 0, _ => .ok []
  | c + 1, r => match getP (r.take 75) with
    | .error e => .error e
    | .ok p => match getsP c (r.drop 75) with
      | .error e => .error e
      | .ok l => .ok (p :: l)
def spanHead : List Nat := [83, 80, 65, 78]
def wireGet (b : List Nat) : Except Int (List PS) :=
  if b.length < 6 then .error 2 else
  if b.take 4 ≠ spanHead then .error 3 else
  if num ((b.drop 4).take 2) = 0 then .error 3 else
  if 32 < num ((b.drop 4).take 2) then .error 3 else
  if b.length < 6 + 75 * num ((b.drop 4).take 2) then .error 2 else
  if 6 + 75 * num ((b.drop 4).take 2) < b.length then .error 3 else getsP (num ((b.drop 4).take 2)) (b.drop 6)
end Go.Proofs.Ytdpodjgggicaoaa.H
