/- The plain mathematics of layer 4: spans and batches as bytes, and read again. -/
import Derived.Test.YtdpodjgggicaoaaH4t
import Derived.Test.YtdpodjgggicaoaaH6t
set_option linter.unusedVariables false
namespace Go.Proofs.Ytdpodjgggicaoaa.H
open Go.RowKit Go.Proofs.YtdpodjgggicaoaaW.PrintWords
structure PS where
  a : Nat
  b : Nat
  c : Nat
  d : Nat
  h : List Nat
  n : List Nat
  s : Int
  t : Int
deriving DecidableEq
structure PS.good (p : PS) : Prop where
  a : p.a < 18446744073709551616
  b : p.b < 18446744073709551616
  c : p.c < 18446744073709551616
  d : p.d < 256
  h : isB p.h
  hl : p.h.length ≤ 9223372036854775807
  n : isB p.n
  nl : p.n.length ≤ 9223372036854775807
  s0 : -9223372036854775808 ≤ p.s
  s1 : p.s < 9223372036854775808
  t0 : -9223372036854775808 ≤ p.t
  t1 : p.t < 9223372036854775808
def mayP (p : PS) : Bool := mayB p.a p.b p.c p.d p.h p.n p.s p.t
def u64n (x : Int) : Nat := (x % 18446744073709551616).toNat
def bytesP (p : PS) : List Nat := nb 8 p.a ++ nb 8 p.b ++ nb 8 p.c ++ nb 1 p.d ++ nb 8 (u64n p.s) ++ nb 8 (u64n p.t) ++ field p.h ++ field p.n
def spanHead : List Nat := [83, 80, 65, 78]
def wirePut (l : List PS) : List Nat × Int := if 1 ≤ l.length ∧ l.length ≤ 32 ∧ l.all mayP = true then (spanHead ++ nb 2 l.length ++ l.flatMap bytesP, 0) else ([], 1)
end Go.Proofs.Ytdpodjgggicaoaa.H
