/- Layer 7's head, the document's. -/
import Derived.Test.YtdpodjgggicaoaaH27
import Derived.Test.YtdpodjgggicaoaaSHC1
import Derived.Test.YtdpodjgggicaoaaSHC4
import Derived.Test.YtdpodjgggicaoaaSHC4p
import Derived.Test.YtdpodjgggicaoaaSHx2
set_option linter.unusedVariables false
namespace Go.Proofs.Ytdpodjgggicaoaa.SH
open Go.RowKit Go.Proofs.YtdpodjgggicaoaaW.PrintWords Go.Proofs.YtdpodjgggicaoaaW.PrintLast Go.Proofs.YtdpodjgggicaoaaW.PrintMore Go.Proofs.Ytdpodjgggicaoaa.H

theorem ref_Head_ev (n : Nat) (hn : n < 4294967296) (keep : Int) : Ev (fun k => merkhetref07_Head.f k (n : Int) keep) (txt (segPut n keep).1, (segPut n keep).2) := by
  have bad : ∀ a b : Int, Ev (fun k => merkhetref07_Head.j0 k a b true) ((⟨#[]⟩ : ByteArray), (1 : Int)) := fun a b => Ev.step (f := fun _ => some (⟨#[]⟩, 1)) (fun k => by rw [merkhetref07_Head.j0, if_pos rfl]) (Ev.now _)
  unfold segPut
  by_cases c1 : keep < 1
  · rw [if_neg (by omega)]
    exact Ev.congr (fun k => if_pos c1) (bad _ _)
  by_cases c2 : keep > 16
  · rw [if_neg (by omega)]
    exact Ev.congr (f := fun k => merkhetref07_Head.j0 k n keep true) (fun k => by rw [merkhetref07_Head.f, if_neg c1, decide_eq_true c2]) (bad _ _)
  rw [if_pos ⟨by omega, by omega⟩]
  refine Ev.congr (f := fun k => merkhetref07_Head.j0 k n keep false) (fun k => by rw [merkhetref07_Head.f, if_neg c1, decide_eq_false c2]) ?_
  obtain ⟨q, rfl⟩ := Int.eq_ofNat_of_zero_le (show 0 ≤ keep by omega)
  have w1 : IntKind.u64.wrap (n : Int) = (n : Int) := by rw [wu64]; omega
  have w2 : IntKind.u64.wrap (q : Int) = (q : Int) := by rw [wu64]; omega
  have hs : sumFrom 0 (segBody n q) < 4294967296 := sumFrom_small _ _ (by decide) (segBody_isB n q)
  have w3 : IntKind.u64.wrap ((sumFrom 0 (segBody n q) : Nat) : Int) = ((sumFrom 0 (segBody n q) : Nat) : Int) := by rw [wu64]; omega
  have h1 : Ev (fun k => merkhetref02_Put.f k (n : Int) 4) (txt (nb 4 n)) := ⟨9, fun k hk => ref_Put_nat k hk n 4 (by omega)⟩
  have h2 : Ev (fun k => merkhetref02_Put.f k (q : Int) 2) (txt (nb 2 q)) := ⟨9, fun k hk => ref_Put_nat k hk q 2 (by omega)⟩
  have h3 : Ev (fun k => merkhetref03_Sum.f k (txt (segBody n q))) ((sumFrom 0 (segBody n q) : Nat) : Int) := Ev.of (fun k => merkhetref03_Sum.mono _ k) (ref_Sum_nat _ (segBody_isB n q) (by rw [segBody_length]; decide))
  have h4 : Ev (fun k => merkhetref02_Put.f k ((sumFrom 0 (segBody n q) : Nat) : Int) 4) (txt (nb 4 (sumFrom 0 (segBody n q)))) := ⟨9, fun k hk => ref_Put_nat k hk _ 4 (by omega)⟩
  have t1 : (⟨#[83, 69, 71, 49]⟩ : ByteArray) ++ txt (nb 4 n) = txt (segLetters ++ nb 4 n) := by rw [← txt_append]; rfl
  have t2 : txt (segLetters ++ nb 4 n) ++ txt (nb 2 q) = txt (segBody n q) := by rw [txt_append]; rfl
  have t3 : txt (segBody n q) ++ txt (nb 4 (sumFrom 0 (segBody n q))) = txt (segHead n q) := by rw [txt_append]; rfl
  refine Ev.step (f := fun k => (merkhetref02_Put.f k (n : Int) 4).bind fun a => (if 4 + a.size ≤ 9223372036854775807 then ((merkhetref02_Put.f k (q : Int) 2).bind fun b => (if ((⟨#[83, 69, 71, 49]⟩ : ByteArray) ++ a).size + b.size ≤ 9223372036854775807 then ((merkhetref03_Sum.f k (((⟨#[83, 69, 71, 49]⟩ : ByteArray) ++ a) ++ b)).bind fun c => ((merkhetref02_Put.f k (IntKind.u64.wrap c) 4).bind fun d => (if (((⟨#[83, 69, 71, 49]⟩ : ByteArray) ++ a) ++ b).size + d.size ≤ 9223372036854775807 then (some ((((⟨#[83, 69, 71, 49]⟩ : ByteArray) ++ a) ++ b) ++ d, 0)) else (none)))) else (none))) else (none))) (fun k => by rw [merkhetref07_Head.j0, if_neg (by decide), w1, w2]) ?_
  refine Ev.bind h1 (Ev.congr (fun k => if_pos (by rw [txt_size, nb_length]; decide)) (Ev.bind h2 ?_))
  rw [t1, t2]
  refine Ev.congr (fun k => if_pos (by rw [txt_size, txt_size, List.length_append, nb_length, nb_length]; decide)) (Ev.bind h3 ?_)
  rw [w3]
  refine Ev.bind h4 ?_
  rw [t3]
  exact Ev.congr (fun k => if_pos (by rw [txt_size, txt_size, nb_length, segBody_length]; decide)) (Ev.now _)
end Go.Proofs.Ytdpodjgggicaoaa.SH
