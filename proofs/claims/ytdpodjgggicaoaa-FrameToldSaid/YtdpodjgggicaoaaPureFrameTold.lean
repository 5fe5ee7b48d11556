/- A frame of whose sum alone, or of whose body alone, up to 32 bits in a row are changed has a wrong sum, and where nothing is changed it is read: for any body of 1 to 300 bytes (else the law asks its example alone). -/
import Derived.Test.YtdpodjgggicaoaaH10
import Derived.Test.YtdpodjgggicaoaaFC9g
import Derived.Test.YtdpodjgggicaoaaFx4
set_option linter.unusedVariables false
namespace Go.Proofs.Ytdpodjgggicaoaa.Pure
open Go.RowKit Go.Proofs.Ytdpodjgggicaoaa.F Go.Proofs.YtdpodjgggicaoaaW.PrintWords Go.Proofs.YtdpodjgggicaoaaW.PrintLast Go.Proofs.YtdpodjgggicaoaaW.PrintMore Go.Proofs.Ytdpodjgggicaoaa.H

theorem told_words (f i : Nat) (hf : f < 100000) (hi : i < 32) : IntKind.u64.wrap (i : Int) = (i : Int) ∧ wrap64 ((i : Int) + 1) = ((i + 1 : Nat) : Int) ∧ wrap64 ((f : Int) + (i : Int)) = ((f + i : Nat) : Int) ∧ (i : Int) < 32 := by
  refine ⟨by rw [wrap_u64]; omega, w64f _ (by omega) (by omega), w64f _ (by omega) (by omega), by omega⟩
theorem told_bits (b i : Nat) (hb : b < 4294967296) (hi : i < 32) : shr .u32 (b : Int) (i : Int) = ((b / 2 ^ i : Nat) : Int) ∧ Go.bits .and .u32 ((b / 2 ^ i : Nat) : Int) 1 = ((b / 2 ^ i % 2 : Nat) : Int) := by
  constructor
  · unfold shr
    rw [Int.toNat_natCast, show IntKind.u32.bits = 32 from rfl, Nat.min_eq_left (by omega)]
    norm_cast
  · have h := u32_and_nat (b / 2 ^ i) 1 (Nat.lt_of_le_of_lt (Nat.div_le_self _ _) hb) (by decide)
    rw [Nat.and_one_is_mod] at h
    exact h
theorem told_place (n f i : Nat) (hn : n ≤ 2000) (hat : f + i < 8 * n) : wrap64 (Int.tdiv ((f + i : Nat) : Int) 8) = (((f + i) / 8 : Nat) : Int) ∧ IntKind.u64.wrap (Int.tmod ((f + i : Nat) : Int) 8) = (((f + i) % 8 : Nat) : Int) ∧ (f + i) / 8 < n ∧ (f + i) % 8 < 8 ∧ (0 : Int) ≤ (((f + i) / 8 : Nat) : Int) ∧ (((f + i) / 8 : Nat) : Int) < (n : Int) ∧ (0 : Int) ≤ (((f + i) % 8 : Nat) : Int) := by
  refine ⟨?_, ?_, by omega, by omega, by omega, by omega, by omega⟩
  · rw [Int.tdiv_eq_ediv_of_nonneg (by omega)]; exact w64f _ (by omega) (by omega)
  · rw [Int.tmod_eq_emod_of_nonneg (by omega), wrap_u64]; omega
theorem told_le (f i e : Nat) (h : f + i < e) : i + 1 + f ≤ e := by omega
theorem told_exp (f i : Nat) : (f + i) % 8 + 8 * ((f + i) / 8) = i + f := by omega
theorem rowB_set (m : List Nat) (i x : Nat) : (rowB m).set i (x : Int) = rowB (m.set i x) := by simp [rowB, List.map_set]
theorem told_end (b mc : List Nat) (f e d : Nat) (x2 : Int) (hb : isB b) (hp : (framePut b).2 = 0) (hmc : isB mc) (hl : mc.length = (framePut b).1.length) (h16 : 16 ≤ f) (hf : f < 16 + 8 * (b.length + 4)) (hc : f < 48 ∧ e = 48 ∨ 48 ≤ f ∧ e = 8 * (framePut b).1.length)
    (hd : d < 2 ^ 32) (hde : d * 2 ^ f < 2 ^ e) (hm : msg mc = msg (framePut b).1 ^^^ d * 2 ^ f) (fi ei : Int) :
    Ev (fun k => merkhetlaw06_FrameTold.l0 k (rowB b) x2 (rowB (framePut b).1) (rowB mc) fi ei (decide (d = 0)) 32) true := by
  obtain ⟨hBl, h1, h2⟩ := framePut_length b hp
  have hat := frame_told b mc f e d hb hp hmc hl h16 hf hc hd hde hm
  have hg := frame_Get_ev mc 0 hmc (by omega)
  have hv : frameGet mc 0 = if d = 0 then (b, 6 + (b.length : Int), 0) else ([], 0, 8) := by
    unfold frameGet
    rw [if_neg (by omega), show ((0 : Int).toNat) = 0 from rfl, List.drop_zero, hat]
    by_cases h0 : d = 0
    · rw [if_pos h0, if_pos h0]; simp
    · rw [if_neg h0, if_neg h0]
  clear hat hde hd hm
  by_cases h0 : d = 0
  · rw [hv, if_pos h0] at hg
    refine Ev.step (f := fun k => (frame_Get.f k (rowB mc) 0).bind fun bt183 => ((merkhetlaw06_fixed.f k).bind fun t188 => (if t188 = true then (if bt183.2.2 = 0 then (if (strOfNums bt183.1).toList = (strOfNums (rowB b)).toList then (some (bt183.2.1 == ((rowB (framePut b).1).length : Int))) else (some false)) else (some false)) else (some false)))) (fun k => by rw [merkhetlaw06_FrameTold.l0, if_neg (by decide), decide_eq_true h0]; rfl) ?_
    refine Ev.bind hg (Ev.bind law06_fixed_ev (Ev.congr (fun k => ?_) (Ev.now true)))
    rw [if_pos rfl, if_pos rfl, if_pos rfl, rowB_length, hBl, show (6 + (b.length : Int)) = ((6 + b.length : Nat) : Int) by omega, beq_self_eq_true]
  · rw [hv, if_neg h0] at hg
    refine Ev.step (f := fun k => (frame_Get.f k (rowB mc) 0).bind fun bt183 => ((merkhetlaw06_fixed.f k).bind fun t189 => (if t189 = true then (if bt183.2.2 = 8 then (if (bt183.1.length : Int) = 0 then (some (bt183.2.1 == 0)) else (some false)) else (some false)) else (some false)))) (fun k => by rw [merkhetlaw06_FrameTold.l0, if_neg (by decide), decide_eq_false h0]; rfl) ?_
    exact Ev.bind hg (Ev.bind law06_fixed_ev (Ev.now true))
set_option maxHeartbeats 1000000 in
theorem told_loop (b : List Nat) (f e c : Nat) (hb : isB b) (hp : (framePut b).2 = 0) (hn : (framePut b).1.length ≤ 2000) (h16 : 16 ≤ f) (hf : f < 16 + 8 * (b.length + 4)) (hf2 : f < 100000) (hc : f < 48 ∧ e = 48 ∨ 48 ≤ f ∧ e = 8 * (framePut b).1.length) (he : e ≤ 8 * (framePut b).1.length) (hcb : c < 4294967296) : ∀ (r i : Nat) (mc : List Nat) (d : Nat), i + r = 32 →
    isB mc → mc.length = (framePut b).1.length → d < 2 ^ i → d * 2 ^ f < 2 ^ e → msg mc = msg (framePut b).1 ^^^ d * 2 ^ f →
    Ev (fun k => merkhetlaw06_FrameTold.l0 k (rowB b) (c : Int) (rowB (framePut b).1) (rowB mc) (f : Int) (e : Int) (decide (d = 0)) (i : Int)) true := by
  intro r
  induction r with
  | zero =>
    intro i mc d hi hmc hl hd hde hmsg
    obtain rfl : i = 32 := by omega
    exact told_end b mc f e d _ hb hp hmc hl h16 hf hc hd hde hmsg _ _
  | succ r ih =>
    intro i mc d hi hmc hl hd hde hmsg
    have hi32 : i < 32 := by omega
    have hi' : i + 1 + r = 32 := by omega
    obtain ⟨w1, w2, w3, w5⟩ := told_words f i hf2 hi32
    obtain ⟨hsh, hbit⟩ := told_bits c i hcb hi32
    have hd' : d < 2 ^ (i + 1) := Nat.lt_of_lt_of_le hd (Nat.pow_le_pow_right (by decide) (Nat.le_succ i))
    by_cases hpb : c / 2 ^ i % 2 = 1
    · have hpi : ((c / 2 ^ i % 2 : Nat) : Int) = 1 := congrArg Int.ofNat hpb
      by_cases hat : f + i < e
      · obtain ⟨t1, t2, t3, hs8, t5, t6, t7⟩ := told_place (framePut b).1.length f i hn (Nat.lt_of_lt_of_le hat he)
        have hidx : (f + i) / 8 < mc.length := hl ▸ t3
        have hpow : 2 ^ ((f + i) % 8) < 256 := Nat.lt_of_lt_of_le (Nat.pow_lt_pow_right (by decide) hs8) (by decide)
        have hshl : shl .u8 1 (((f + i) % 8 : Nat) : Int) = ((2 ^ ((f + i) % 8) : Nat) : Int) := by
          unfold shl
          rw [Int.toNat_natCast, show IntKind.u8.bits = 8 from rfl, Nat.min_eq_left (Nat.le_of_lt hs8), Int.one_mul, IntKind.wrap_u8]
          have : ((2 : Int) ^ ((f + i) % 8)) = ((2 ^ ((f + i) % 8) : Nat) : Int) := by norm_cast
          rw [this]; exact Int.emod_eq_of_lt (Int.natCast_nonneg _) (Int.ofNat_lt.2 hpow)
        have hg := getD_lt hmc ((f + i) / 8)
        have hne : d ^^^ 2 ^ i ≠ 0 := by
          intro h
          have h2 := xor_low (a := 1) (b := d) (n := i) hd
          rw [Nat.one_mul, Nat.xor_comm] at h2
          rw [h2] at h
          exact absurd h (Nat.ne_of_gt (Nat.lt_of_lt_of_le (Nat.pow_pos (by decide)) (Nat.le_add_right _ _)))
        have hx : d ^^^ 2 ^ i < 2 ^ (i + 1) := Nat.xor_lt_two_pow hd' (Nat.pow_lt_pow_right (by decide) (Nat.lt_succ_self i))
        have hde' : (d ^^^ 2 ^ i) * 2 ^ f < 2 ^ e := by
          have h1 : (d ^^^ 2 ^ i) * 2 ^ f < 2 ^ (i + 1) * 2 ^ f := Nat.mul_lt_mul_of_pos_right hx (Nat.pow_pos (by decide))
          rw [← Nat.pow_add] at h1
          exact Nat.lt_of_lt_of_le h1 (Nat.pow_le_pow_right (by decide) (told_le f i e hat))
        have hdd := ih (i + 1) (mc.set ((f + i) / 8) (mc.getD ((f + i) / 8) 0 ^^^ 2 ^ ((f + i) % 8))) (d ^^^ 2 ^ i) hi'
          (fun x hx => by
            rcases List.mem_or_eq_of_mem_set hx with h | h
            · exact hmc x h
            · rw [h]; exact Nat.xor_lt_two_pow (n := 8) hg hpow)
          (by rw [List.length_set]; exact hl) hx hde'
          (by
            rw [msg_set _ _ _ hidx, hmsg, mul_xor', Nat.xor_assoc]
            congr 2
            rw [← Nat.pow_add, ← Nat.pow_add]
            congr 1
            exact told_exp f i)
        rw [show decide (d ^^^ 2 ^ i = 0) = false from decide_eq_false hne] at hdd
        refine Ev.step (f := fun k => merkhetlaw06_FrameTold.l0 k (rowB b) (c : Int) (rowB (framePut b).1) (rowB (mc.set ((f + i) / 8) (mc.getD ((f + i) / 8) 0 ^^^ 2 ^ ((f + i) % 8)))) (f : Int) (e : Int) false ((i + 1 : Nat) : Int)) (fun k => ?_) hdd
        rw [merkhetlaw06_FrameTold.l0, if_pos w5, w1, if_pos (Int.natCast_nonneg i), hsh, hbit, w2, w3, if_pos hpi, if_pos (Int.ofNat_lt.2 hat), t1, if_pos t5, rowB_length, hl, if_pos t6, t2, if_pos t7, rd_rowB _ _ hidx, hshl, u8_xor_nat _ _ hg hpow, Int.toNat_natCast, rowB_set]
      · refine Ev.step (f := fun k => merkhetlaw06_FrameTold.l0 k (rowB b) (c : Int) (rowB (framePut b).1) (rowB mc) (f : Int) (e : Int) (decide (d = 0)) ((i + 1 : Nat) : Int)) (fun k => ?_) (ih (i + 1) mc d hi' hmc hl hd' hde hmsg)
        rw [merkhetlaw06_FrameTold.l0, if_pos w5, w1, if_pos (Int.natCast_nonneg i), hsh, hbit, w2, w3, if_pos hpi, if_neg (fun h => hat (Int.ofNat_lt.1 h))]
    · have hpn : ¬ ((c / 2 ^ i % 2 : Nat) : Int) = 1 := fun h => hpb (Int.ofNat.inj h)
      refine Ev.step (f := fun k => merkhetlaw06_FrameTold.l0 k (rowB b) (c : Int) (rowB (framePut b).1) (rowB mc) (f : Int) (e : Int) (decide (d = 0)) ((i + 1 : Nat) : Int)) (fun k => ?_) (ih (i + 1) mc d hi' hmc hl hd' hde hmsg)
      rw [merkhetlaw06_FrameTold.l0, if_pos w5, w1, if_pos (Int.natCast_nonneg i), hsh, hbit, w2, if_neg hpn]
theorem ft_wraps (n a g : Nat) (hn : n ≤ 300) (ha : a ≤ 65535) (hg : g = a % (8 * (n + 4))) (hm : g < 8 * (n + 4)) :
    wrap64 (6 + (n : Int)) = ((6 + n : Nat) : Int) ∧ wrap64 ((n : Int) + 4) = ((n + 4 : Nat) : Int) ∧ wrap64 (8 * ((n + 4 : Nat) : Int)) = ((8 * (n + 4) : Nat) : Int) ∧ wrap64 (a : Int) = (a : Int) ∧ Int.tmod (a : Int) ((8 * (n + 4) : Nat) : Int) = (g : Int) ∧ wrap64 (16 + (g : Int)) = ((16 + g : Nat) : Int) := by
  refine ⟨?_, ?_, ?_, ?_, ?_, ?_⟩
  · rw [w64f _ (by omega) (by omega)]; omega
  · rw [w64f _ (by omega) (by omega)]; omega
  · rw [w64f _ (by omega) (by omega)]; omega
  · exact w64f _ (by omega) (by omega)
  · rw [Int.tmod_eq_emod_of_nonneg (by omega), hg]; norm_cast
  · rw [w64f _ (by omega) (by omega)]; omega
theorem FrameTold : merkhetlaw06_FrameTold.Pure := by
  intro l0 a1 a2 _ _ h0 ha1 ha2
  obtain ⟨b, rfl, hb⟩ := row_bytes l0 h0
  obtain ⟨a, rfl⟩ := Int.eq_ofNat_of_zero_le (wf_u16 ha1).1
  have ha := (wf_u16 ha1).2
  obtain ⟨c, rfl⟩ := Int.eq_ofNat_of_zero_le (wf_u32 ha2).1
  have hcb := (wf_u32 ha2).2
  clear ha1 ha2
  apply Ev.rounds
  have jt : Ev (fun k => merkhetlaw06_FrameTold.j0 k (rowB b) (a : Int) (c : Int) true) true := Ev.step (f := fun k => (merkhetlaw06_fixed.f k).bind fun t => some t) (fun k => by rw [merkhetlaw06_FrameTold.j0, if_pos rfl]) (Ev.bind law06_fixed_ev (Ev.now _))
  by_cases c1 : (b.length : Int) < 1
  · exact Ev.congr (f := fun k => merkhetlaw06_FrameTold.j0 k (rowB b) (a : Int) (c : Int) true) (fun k => by rw [merkhetlaw06_FrameTold.f, rowB_length, if_pos c1]) jt
  by_cases c2 : (b.length : Int) > 300
  · exact Ev.congr (f := fun k => merkhetlaw06_FrameTold.j0 k (rowB b) (a : Int) (c : Int) true) (fun k => by rw [merkhetlaw06_FrameTold.f, rowB_length, if_neg c1, decide_eq_true c2]) jt
  refine Ev.congr (f := fun k => merkhetlaw06_FrameTold.j0 k (rowB b) (a : Int) (c : Int) false) (fun k => by rw [merkhetlaw06_FrameTold.f, rowB_length, if_neg c1, decide_eq_false c2]) ?_
  have hp : (framePut b).2 = 0 := by unfold framePut; rw [if_pos ⟨by omega, by omega⟩]
  obtain ⟨hBl, h1, h2⟩ := framePut_length b hp
  obtain ⟨g, hg⟩ : ∃ g, g = a % (8 * (b.length + 4)) := ⟨_, rfl⟩
  have hm : g < 8 * (b.length + 4) := by rw [hg]; exact Nat.mod_lt a (by omega)
  have W := Aside0.mk (ft_wraps b.length a g (by omega) (by omega) hg hm)
  have w6 := Aside0.mk (show wrap64 (8 * (((rowB (framePut b).1).length : Nat) : Int)) = ((8 * (framePut b).1.length : Nat) : Int) by rw [rowB_length]; exact w64f _ (by omega) (by omega))
  clear hg
  refine Ev.step (f := fun k => (frame_Put.f k (rowB b)).bind fun bt171 => (if bt171.2 = 0 then (merkhetlaw06_FrameTold.j1 k (rowB b) (a : Int) (c : Int) bt171.1 ((bt171.1.length : Int) != ((6 + b.length : Nat) : Int))) else (merkhetlaw06_FrameTold.j1 k (rowB b) (a : Int) (c : Int) bt171.1 true))) (fun k => by rw [merkhetlaw06_FrameTold.j0, if_neg (by decide), rowB_length, W.out.1]) ?_
  refine Ev.bind (frame_Put_ev b hb) ?_
  refine Ev.congr (f := fun k => merkhetlaw06_FrameTold.j1 k (rowB b) (a : Int) (c : Int) (rowB (framePut b).1) false) (fun k => by rw [if_pos hp, rowB_length, hBl, bne_self_eq_false]) ?_
  have hB := framePut_isB hb
  have fin : ∀ e : Nat, (16 + g < 48 ∧ e = 48 ∨ 48 ≤ 16 + g ∧ e = 8 * (framePut b).1.length) → e ≤ 8 * (framePut b).1.length → Ev (fun k => merkhetlaw06_FrameTold.j2 k (rowB b) (c : Int) (rowB (framePut b).1) (rowB (framePut b).1) ((16 + g : Nat) : Int) (e : Int)) true := fun e he he2 => by
    have := told_loop b (16 + g) e c hb hp (by omega) (by omega) (by omega) (by omega) he he2 (by omega) 32 0 (framePut b).1 0 (by omega) hB rfl (by decide) (by rw [Nat.zero_mul]; exact Nat.pow_pos (by decide)) (by simp)
    exact Ev.step (f := fun k => merkhetlaw06_FrameTold.l0 k (rowB b) (c : Int) (rowB (framePut b).1) (rowB (framePut b).1) ((16 + g : Nat) : Int) (e : Int) (decide (0 = 0)) ((0 : Nat) : Int)) (fun k => by rw [merkhetlaw06_FrameTold.j2]; rfl) this
  by_cases c3 : ((16 + g : Nat) : Int) ≥ 48
  · refine Ev.step (f := fun k => merkhetlaw06_FrameTold.j2 k (rowB b) (c : Int) (rowB (framePut b).1) (rowB (framePut b).1) ((16 + g : Nat) : Int) ((8 * (framePut b).1.length : Nat) : Int)) (fun k => ?_) (fin _ (Or.inr ⟨by omega, rfl⟩) (Nat.le_refl _))
    rw [merkhetlaw06_FrameTold.j1, if_neg (by decide), Option.bind_some, if_pos (by rw [rowB_length]; simp; omega), Option.bind_some, List.nil_append, rowB_length, W.out.2.1, W.out.2.2.1, if_neg (by omega), W.out.2.2.2.1, W.out.2.2.2.2.1, W.out.2.2.2.2.2, if_pos c3, w6.out]
  · refine Ev.step (f := fun k => merkhetlaw06_FrameTold.j2 k (rowB b) (c : Int) (rowB (framePut b).1) (rowB (framePut b).1) ((16 + g : Nat) : Int) ((48 : Nat) : Int)) (fun k => ?_) (fin _ (Or.inl ⟨by omega, rfl⟩) (by omega))
    rw [merkhetlaw06_FrameTold.j1, if_neg (by decide), Option.bind_some, if_pos (by rw [rowB_length]; simp; omega), Option.bind_some, List.nil_append, rowB_length, W.out.2.1, W.out.2.2.1, if_neg (by omega), W.out.2.2.2.1, W.out.2.2.2.2.1, W.out.2.2.2.2.2, if_neg c3]
    rfl
end Go.Proofs.Ytdpodjgggicaoaa.Pure
