/- Small lemmas of this project's own on what walks meet: rows that a conversion of a constant makes. -/
import Derived.Test.YtdpodjgggicaoaaWWordst
import Derived.Test.YtdpodjgggicaoaaWMoret
import Derived.Lib.SlBytesConst
set_option linter.unusedVariables false
set_option linter.unusedSimpArgs false
namespace Go.Proofs.Ytdpodjgggicaoaa.H
open Go.RowKit Go.Proofs.YtdpodjgggicaoaaW.PrintWords Go.Proofs.YtdpodjgggicaoaaW.PrintMore
theorem C_new (k : IntKind) (w : World) (l : List Int) (C : Array Value) (t : TypeId) (fr : Nat × Nat) (hC : C = (l.map fun x => Value.int k x).toArray) (hl : l.length ≤ 9223372036854775807) :
    Kd.C (Kd.int k) (w.alloc (.cells C t fr)) (some ⟨w.heap.size, 0, none⟩) l.length l := by
  refine Kd.C_of_reads (d := (0 : Int)) (h1 := fun _ => rfl) ⟨rfl, hl, fun _ => ⟨_, rfl, fun j hj => ?_⟩⟩
  rw [add_plain, cell_of_row _ _ _ C t fr (heap_alloc_new _ _), hC]
  simp [List.getElem?_eq_getElem hj, List.getD_eq_getElem?_getD]
theorem below_alloc1 (w : World) (o : Obj) : Below w.heap.size w (w.alloc o) := below_alloc (Below.refl _ _) o
theorem u64_id (x : Int) (h0 : 0 ≤ x) (h1 : x < 18446744073709551616) : IntKind.u64.wrap x = x := by
  have e : IntKind.u64.wrap x = x % 18446744073709551616 := by simp [IntKind.wrap, IntKind.bits, IntKind.signed]
  rw [e]; omega
def litF (v : Value) (xs : List Int) (w : World) : Prop := ∃ A c, v = .slice A xs.length c ∧ xs.length ≤ c ∧ Kd.C (Kd.int .u8) w A xs.length xs ∧ ∀ k, v.ownBlock = some k → k < w.heap.size
theorem litF_slice {v : Value} {xs : List Int} {w : World} (h : litF v xs w) : ∃ A c, v = .slice A xs.length c := by obtain ⟨A, c, e, _⟩ := h; exact ⟨A, c, e⟩
theorem litF_reads' {A : Option Addr} {n c : Nat} {xs : List Int} {w : World} (h : litF (.slice A n c) xs w) : n = xs.length ∧ n ≤ c ∧ Kd.C (Kd.int .u8) w A xs.length xs := by
  obtain ⟨A', c', e, h1, h2, _⟩ := h
  injection e with e1 e2 e3
  subst e1 e2 e3
  exact ⟨rfl, h1, h2⟩
theorem litF_lt {v : Value} {xs : List Int} {w : World} (h : litF v xs w) : ∀ k, v.ownBlock = some k → k < w.heap.size := by obtain ⟨A, c, _, _, _, h⟩ := h; exact h
theorem litF_below {v : Value} {xs : List Int} {w w1 : World} (h : litF v xs w) (hb : Below w.heap.size w w1) : litF v xs w1 := by
  obtain ⟨A, c, e, h1, h2, h3⟩ := h
  exact ⟨A, c, e, h1, Kd.C_below h2 hb, fun k hk => Nat.lt_of_lt_of_le (h3 k hk) (below_size hb)⟩
theorem litF_alloc {v : Value} {xs : List Int} {w : World} (h : litF v xs w) (o : Obj) : litF v xs (w.alloc o) := litF_below h (below_alloc (Below.refl _ _) o)
theorem litF_drew {v : Value} {xs : List Int} {w : World} (h : litF v xs w) : litF v xs w.drew := litF_below h (below_drew (Below.refl _ _))
theorem litF_drewN {v : Value} {xs : List Int} {w : World} (h : litF v xs w) (m : Nat) : litF v xs (w.drewN m) := litF_below h (pw_below_drewN (Below.refl _ _) m)
theorem lit_conv {P : Program} {ops : Array Oper} {rest : List Oper} {o1 o2 : Oper} {a : Act} {Q : Exit → Act → World → Prop} {W : World} (e t : TypeId) (hg1 : o1.guard = none) {N1 : Tmp} (hd1 : o1.dst = some N1) (hg2 : o2.guard = none) (ho2 : o2.op = .convert t t (.tmp N1))
    (ht : P.underlying t = some (.slice e)) (he : P.underlying e = some (.int .u8)) {xs : List Int} {C : Array Value} (hN : N1 < a.tmps.size)
    (hrun : (execOp a.eval o1).run P W = .ok (.value (.slice (some ⟨W.heap.size, 0, none⟩) xs.length xs.length)) (W.alloc (.cells C e)))
    (hC : C = (xs.map fun x => Value.int .u8 x).toArray) (hl : xs.length ≤ 9223372036854775807)
    (h : ∀ v w1, litF v xs w1 → Below W.heap.size W w1 → wpList P ops Q rest ((a.put o1.dst v).put o2.dst v) w1) :
    wpList P ops Q (o1 :: o2 :: rest) a W := by
  refine Kd.event_run hg1 hrun ?_
  have hev : (a.put o1.dst (.slice (some ⟨W.heap.size, 0, none⟩) xs.length xs.length)).eval (.tmp N1) = .slice (some ⟨W.heap.size, 0, none⟩) xs.length xs.length := by
    rw [hd1]
    simp [Act.put, Act.eval, hN]
  refine Kd.event_run hg2 (w1 := W.alloc (.cells C e (C.size, C.size + 1))) (v := .slice (some ⟨W.heap.size, 0, none⟩) xs.length xs.length) ?_ (h _ _ ⟨_, _, rfl, Nat.le_refl _, C_new .u8 W xs C e _ hC hl, fun k hk => ?_⟩ (below_alloc1 W _))
  · have := Lib.run_convert_bytes_const (P := P) W t e C xs.length xs.length ht he
    unfold execOp
    rw [ho2]
    simp only []
    rw [hev]
    have h2 : (convert t t (.slice (some ⟨W.heap.size, 0, none⟩) xs.length xs.length) >>= fun x => (pure (Next.value x) : Sem Next)).run P (W.alloc (.cells C e)) = .ok (.value (.slice (some ⟨W.heap.size, 0, none⟩) xs.length xs.length)) (W.alloc (.cells C e (C.size, C.size + 1))) := by
      simp [go_sem, this]
    exact h2
  · have : W.heap.size = k := by simpa [Value.ownBlock] using hk
    subst this
    simp
end Go.Proofs.Ytdpodjgggicaoaa.H
