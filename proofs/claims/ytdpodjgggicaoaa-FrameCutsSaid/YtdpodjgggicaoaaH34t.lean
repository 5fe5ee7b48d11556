/- A range over a function that keeps a place of its own in a cell (block c) between two rounds; the rounds are counted. -/
import Derived.RangeFuncWrites
import Derived.RangeFuncBox
import Derived.RangeFuncNested
set_option linter.unusedVariables false
set_option linter.unusedSimpArgs false
namespace Go.Proofs.Ytdpodjgggicaoaa.H
open Go Go.RowKit
section
variable {F : Fence} {n : Nat} {P : Program}
def stPost (B : Nat) (Kp : World → World → Prop) (I : Nat → World → Prop) (Ix : Nat → Nat → World → Prop) (j : Nat) (W : World) : Exit → Act → World → Prop
  | .normal, _, W' => KeepsFrom B W W' ∧ Kp W W' ∧ I j W'
  | .exit id, _, W' => KeepsFrom B W W' ∧ Ix id j W'
  | _, _, _ => False
def StStops (F : Fence) (n : Nat) (P : Program) (g : Nat) (lb : Array Value) {α : Type} (encs : α → Array Value) (c : Nat) (Kp : World → World → Prop) (Px : Nat → α → World → Prop) (Gd : Nat → Prop) (Done : Nat → Prop) (w : World) : Prop :=
  ∀ (l : Nat) (J Jx : Nat → World → Prop), (∀ j A B, J j A → A.grownBy B (some c) → J j B) → (∀ j A B, Jx j A → A.grownBy B (some c) → Jx j B) → (∀ j W, J j W → Gd j) →
    (∀ j x W1, J j W1 → Px j x W1 → YieldAt F (n - 1) P l (encs x) W1 fun e W' => (e = .returned (.bool true) ∧ J (j + 1) W' ∧ Kp W1 W') ∨ (e = .returned (.bool false) ∧ Jx (j + 1) W')) →
    ∀ W, Kp w W → w.heap.size + 2 ≤ W.heap.size → J 0 W →
    CallsIn F n P g (#[.func (.yield l) #[] #[]] ++ lb) W fun e W' => (∃ v, e = .returned v) ∧ ((∃ j, Done j ∧ J j W') ∨ (∃ j, Jx j W'))
theorem rangeFunc_st {α : Type} {g : Operand} {ps : Array Tmp} {assign body : Code} {Q : Exit → Act → World → Prop} {a : Act} {w : World}
    (hro : F.round = none) (h1 : 1 ≤ n) {gf : Nat} {lb : Array Value} (hg : a.eval g = .func (.func gf) #[] lb) (hFg : F.fn gf) (eg : ∀ args w, (callFunc gf args).run P w = .ok (.enter gf args) w)
    {encs : α → Array Value} {c : Nat} (hc : c < w.heap.size) {Kp : World → World → Prop} {Px : Nat → α → World → Prop} {Gd Done : Nat → Prop} (hseq : StStops F (n - 1) P gf lb encs c Kp Px Gd Done w)
    (hKt : ∀ {A B C : World}, Kp A B → Kp B C → Kp A C) (hKr : Kp w w) (hKa : ∀ (W : World) (o : Obj), w.heap.size ≤ W.heap.size → Kp W (W.alloc o)) (hKb : ∀ (W : World) (l : Nat) (o : Obj), w.heap.size ≤ l → Kp W (W.putObj l o))
    (hPx : ∀ j x W (o : Obj), Px j x W → Px j x (W.putObj (w.heap.size + 1) o)) (hps : ∀ x, (encs x).size = ps.size)
    (I : Nat → World → Prop) (Ix : Nat → Nat → World → Prop) (hI : ∀ j A B r, I j A → A.grownBy B (some r) → (r = c ∨ r = w.heap.size ∨ r = w.heap.size + 1) → I j B) (hIa : ∀ j W o, I j W → w.heap.size ≤ W.heap.size → I j (W.alloc o))
    (hIx : ∀ id j A B r, Ix id j A → A.grownBy B (some r) → (r = c ∨ r = w.heap.size ∨ r = w.heap.size + 1) → Ix id j B) (hGd : ∀ j W, I j W → Gd j) (h0 : I 0 w) (a₁ : α → Act)
    (hassign : ∀ (l : Nat) (x : α) (W : World) (K : Act → World → Prop), K (a₁ x) W →
      assign.wpIn (F.inRound l) (n - 1 - 1) P (Exit.then K (fun _ _ _ => False)) { tmps := (ps.zip (encs x)).foldl (fun t (p, v) => t.setIfInBounds p v) a.tmps, defers := [] } W)
    (hbody : ∀ (l : Nat) (j : Nat) (x : α) (W : World), I j W → Px j x W → w.heap.size + 2 ≤ W.heap.size → body.wpIn (F.inRound l) (n - 1 - 1) P (stPost w.heap.size Kp I Ix (j + 1) W) (a₁ x) W)
    (hdone : ∀ (D : Nat) (j : Nat) (W : World), w.heap.size ≤ D → Done j → I j W → W.heap[D]? = some (.deferred (some [])) → Q .normal { a with defers := { target := .collected D, args := #[] } :: a.defers } W)
    (hstop : ∀ (D : Nat) (id : Nat) (j : Nat) (W : World), w.heap.size ≤ D → Ix id j W → W.heap[D]? = some (.deferred (some [])) → (Code.exit id).wpIn F n P Q { a with defers := { target := .collected D, args := #[] } :: a.defers } W) :
    (Code.rangeFunc g ps assign body).wpIn F n P Q a w := by
  refine wpIn_rangeFunc ?_
  intro fn hfn
  rw [hro]
  obtain ⟨rec, hrec⟩ : ∃ rec : LoopState → Option Code → Loop, rec = fun st pe => { state := st, pending := pe, fn, tmps := a.tmps, params := ps, assign, body, defers := w.heap.size } := ⟨_, rfl⟩
  obtain ⟨W1, hW1⟩ : ∃ W1, (w.alloc (.deferred (some []))).alloc (.loop (rec .ready none)) = W1 := ⟨_, rfl⟩
  have hL1 : W1.heap[w.heap.size + 1]? = some (.loop (rec .ready none)) := by
    rw [← hW1]; have := World.alloc_heap_new (w.alloc (.deferred (some []))) (.loop (rec .ready none)); rwa [World.size_alloc] at this
  have hK1 : W1.heap[w.heap.size]? = some (.deferred (some [])) := by
    rw [← hW1]; exact (Below.heap_alloc _ _ _ (by simp)).trans (World.alloc_heap_new w _)
  have hI1 : I 0 W1 := by rw [← hW1]; exact hIa _ _ _ (hIa _ _ _ h0 (Nat.le_refl _)) (by simp)
  have hkp1 : Kp w W1 := by rw [← hW1]; exact hKt (hKa _ _ (Nat.le_refl _)) (hKa _ _ (by simp))
  have hs1 : w.heap.size + 2 ≤ W1.heap.size := by rw [← hW1]; simp
  have put : ∀ {j : Nat} {W : World} {l : Nat} (o : Obj), I j W → (l = w.heap.size ∨ l = w.heap.size + 1) → I j (W.putObj l o) := fun o hi hl => hI _ _ _ _ hi (grownBy_putObj' _ _ o) (.inr hl)
  have putx : ∀ {id j : Nat} {W : World} {l : Nat} (o : Obj), Ix id j W → (l = w.heap.size ∨ l = w.heap.size + 1) → Ix id j (W.putObj l o) := fun o hi hl => hIx _ _ _ _ _ hi (grownBy_putObj' _ _ o) (.inr hl)
  refine ⟨w.heap.size + 1, [{ target := .collected w.heap.size, args := #[] }], W1, { target := .fn (.func gf) lb, args := #[.func (.yield (w.heap.size + 1)) #[] #[]] }, W1, gf,
    #[.func (.yield (w.heap.size + 1)) #[] #[]] ++ lb, W1, ?_, ?_, ?_, ?_, fun _ => h1, ?_⟩
  · rw [← hW1, hrec]; exact run_enterLoop_outer _ _ _ _ _
  · simp only [resolve, hg]
    simp [go_sem]
  · intro f' hf'; simp [Target.leads] at hf'; subst hf'; exact hFg
  · simp [invoke, go_sem, eg]
  · have blk : ∀ {A B : World} {k : Nat} {o : Obj}, A.grownBy B (some c) → w.heap.size ≤ k → A.heap[k]? = some o → B.heap[k]? = some o := fun hgr hk ho =>
      (hgr.block _ (Array.getElem?_eq_some_iff.1 ho).1 (fun e => by injection e with e; omega)).trans ho
    refine (hseq (w.heap.size + 1)
      (fun j W => (I j W ∧ w.heap.size + 2 ≤ W.heap.size) ∧ W.heap[w.heap.size + 1]? = some (.loop (rec .ready none)) ∧ W.heap[w.heap.size]? = some (.deferred (some [])))
      (fun j W => ∃ id, Ix id j W ∧ W.heap[w.heap.size + 1]? = some (.loop (rec .done (some (.exit id)))) ∧ W.heap[w.heap.size]? = some (.deferred (some [])))
      (fun j A B hs hgr => ⟨⟨hI j A B c hs.1.1 hgr (.inl rfl), Nat.le_trans hs.1.2 hgr.size⟩, blk hgr (by omega) hs.2.1, blk hgr (Nat.le_refl _) hs.2.2⟩)
      (fun j A B hs hgr => by
        obtain ⟨id, hi, hl, hk⟩ := hs
        exact ⟨id, hIx id j A B c hi hgr (.inl rfl), blk hgr (by omega) hl, blk hgr (Nat.le_refl _) hk⟩)
      (fun j W hj => hGd j W hj.1.1)
      ?_ W1 hkp1 hs1 ⟨⟨hI1, hs1⟩, hL1, hK1⟩).mono ?_
    · rintro j x W ⟨⟨hi, hsz⟩, hl, hk⟩ hpx
      have hlt : w.heap.size + 1 < W.heap.size := (Array.getElem?_eq_some_iff.1 hl).1
      have hy := run_yield (P := P) (args := encs x) hl (by rw [hrec]; exact hps x)
      rw [hrec] at hy
      refine ⟨fn, _, assign, body, hy, roundIn_of_wpIn hfn (hassign _ x W _ ⟨_, run_beginRound hl (by rw [hrec]), ?_⟩)⟩
      have hl2 : (W.putObj (w.heap.size + 1) (.loop { rec .ready none with state := .busy })).heap[w.heap.size + 1]? = some (.loop { rec .ready none with state := .busy }) := World.putObj_heap_same hlt
      have hk2 : (W.putObj (w.heap.size + 1) (.loop { rec .ready none with state := .busy })).heap[w.heap.size]? = some (.deferred (some [])) := (World.putObj_heap_other (by omega)).trans hk
      have hw2 : Kp W (W.putObj (w.heap.size + 1) (.loop { rec .ready none with state := .busy })) := hKb _ _ _ (by omega)
      refine wpIn_mono (hbody _ j x _ (put _ hi (.inr rfl)) (hPx _ _ _ _ hpx) (by rw [World.putObj_size]; exact hsz)) ?_
      have fin : ∀ (jump : Option Code) (W3 : World), KeepsFrom w.heap.size (W.putObj (w.heap.size + 1) (.loop { rec .ready none with state := .busy })) W3 →
          (Instr.endRound (w.heap.size + 1) jump).run P W3 = .ok (.bool jump.isNone) (W3.putObj (w.heap.size + 1) (.loop (rec (if jump.isNone then .ready else .done) jump))) ∧
          (W3.putObj (w.heap.size + 1) (.loop (rec (if jump.isNone then .ready else .done) jump))).heap[w.heap.size + 1]? = some (.loop (rec (if jump.isNone then .ready else .done) jump)) ∧
          (W3.putObj (w.heap.size + 1) (.loop (rec (if jump.isNone then .ready else .done) jump))).heap[w.heap.size]? = some (.deferred (some [])) := fun jump W3 hk3 => by
        have hl3 := hk3.same _ _ (by omega) hl2 rfl
        have := run_endRound (P := P) jump hl3
        rw [hrec] at this ⊢
        exact ⟨this, World.putObj_heap_same (Array.getElem?_eq_some_iff.1 hl3).1, (World.putObj_heap_other (by omega)).trans (hk3.same _ _ (Nat.le_refl _) hk2 rfl)⟩
      rintro e a3 W3 hp
      cases e with
      | normal =>
        obtain ⟨hk3, hkp3, hi3⟩ := hp
        obtain ⟨hr, hl4, hk4⟩ := fin none W3 hk3
        exact ⟨_, _, hr, .inl ⟨rfl, ⟨⟨put _ hi3 (.inr rfl), by rw [World.putObj_size]; have := hk3.size; rw [World.putObj_size] at this; omega⟩, hl4, hk4⟩, hKt (hKt hw2 hkp3) (hKb _ _ _ (by omega))⟩⟩
      | exit id =>
        obtain ⟨hk3, hi3⟩ := hp
        obtain ⟨hr, hl4, hk4⟩ := fin (some (.exit id)) W3 hk3
        exact ⟨_, _, hr, .inr ⟨rfl, id, putx _ hi3 (.inr rfl), hl4, hk4⟩⟩
      | ret => exact hp.elim
      | goto t => exact hp.elim
      | panic ch => exact hp.elim
      | outgrown => exact hp.elim
    · rintro e W2 ⟨⟨v, rfl⟩, (⟨j, hd, ⟨hi, hsz⟩, hl, hk⟩ | ⟨j, id, hi, hl, hk⟩)⟩
      · exact ⟨none, _, by have := run_endLoop (P := P) hl (by rw [hrec]; simp); rw [hrec] at this; exact this, hdone _ j _ (Nat.le_refl _) hd (put _ hi (.inr rfl)) ((World.putObj_heap_other (by omega)).trans hk)⟩
      · exact ⟨some (.exit id), _, by have := run_endLoop (P := P) hl (by rw [hrec]; simp); rw [hrec] at this; exact this, hstop _ id j _ (Nat.le_refl _) (putx _ hi (.inr rfl)) ((World.putObj_heap_other (by omega)).trans hk)⟩
end
end Go.Proofs.Ytdpodjgggicaoaa.H
