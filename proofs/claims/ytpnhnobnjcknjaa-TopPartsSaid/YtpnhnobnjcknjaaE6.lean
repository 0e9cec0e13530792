import Derived.Test.YtpnhnobnjcknjaaE5
namespace Go.Proofs.Ytpnhnobnjcknjaa.Pe
open Go.Pe Go.RowKit
set_option maxRecDepth 20000
set_option maxHeartbeats 4000000
set_option linter.unusedSimpArgs false
set_option linter.unusedVariables false

/-- The formula in natural numbers. -/
def tkN (s b G : Nat) : Nat := 2 + (if b = 0 then 0 else s / b) + (s - (if b = 0 then 0 else s / b)) * G
theorem tk_of {n b g : Nat} (h0 : 1 ≤ n) (h1 : n ≤ 4095) (hb : b ≤ 255) (hg : g ≤ 127) : ticksV n b g = if n ≤ 7 then 1 else (tkN (n / 7 - 1) b (max g 1) : Nat) := by
  rw [ticksV, if_neg (by omega)]
  by_cases h7 : n ≤ 7
  · rw [if_pos (by omega), if_pos h7]
    rfl
  · rw [if_neg (by omega), if_neg h7]
    have e1 : (n : Int).tdiv 7 = ((n / 7 : Nat) : Int) := rfl
    have e2 : ((n / 7 : Nat) : Int) - 1 = ((n / 7 - 1 : Nat) : Int) := by omega
    have e3 : (if (1 : Int) > (g : Int) then (1 : Int) else (g : Int)) = ((max g 1 : Nat) : Int) := by split <;> omega
    rw [e1, e2, e3]
    unfold tkN
    by_cases hb0 : b = 0
    · rw [if_neg (by omega), if_pos hb0]
      simp
    · rw [if_pos (by omega), if_neg hb0]
      have e4 : ((n / 7 - 1 : Nat) : Int).tdiv (b : Int) = (((n / 7 - 1) / b : Nat) : Int) := rfl
      rw [e4]
      have hle : (n / 7 - 1) / b ≤ n / 7 - 1 := Nat.div_le_self _ _
      have e5 : ((n / 7 - 1 : Nat) : Int) - (((n / 7 - 1) / b : Nat) : Int) = ((n / 7 - 1 - (n / 7 - 1) / b : Nat) : Int) := by omega
      rw [e5]
      simp
theorem div_slow (s d b : Nat) (hb : 0 < b) : (s + d) / b ≤ s / b + d := by
  have : (s + d) / b < s / b + d + 1 := by
    rw [Nat.div_lt_iff_lt_mul hb]
    have h1 := Nat.lt_div_mul_add (a := s) hb
    have h2 : (s / b + d + 1) * b = s / b * b + d * b + b := by rw [Nat.add_mul, Nat.add_mul, Nat.one_mul]
    have h3 : d ≤ d * b := Nat.le_mul_of_pos_right d hb
    omega
  omega
theorem tkN_mono {s s' b G : Nat} (h : s ≤ s') : tkN s b G ≤ tkN s' b G := by
  unfold tkN
  by_cases hb : b = 0
  · rw [if_pos hb, if_pos hb]
    have := Nat.mul_le_mul_right G h
    simp
    omega
  · rw [if_neg hb, if_neg hb]
    have h1 : s / b ≤ s' / b := Nat.div_le_div_right h
    have h2 := div_slow s (s' - s) b (by omega)
    rw [show s + (s' - s) = s' by omega] at h2
    have h3 : s / b ≤ s := Nat.div_le_self _ _
    have h4 : s' / b ≤ s' := Nat.div_le_self _ _
    have := Nat.mul_le_mul_right G (show s - s / b ≤ s' - s' / b by omega)
    omega
theorem tkN_gap {s b G G' : Nat} (h : G ≤ G') : tkN s b G ≤ tkN s b G' := by
  unfold tkN
  have := Nat.mul_le_mul_left (s - (if b = 0 then 0 else s / b)) h
  omega
theorem tk_mono {n n' b g : Nat} (h0 : 1 ≤ n) (h1 : n' ≤ 4095) (hn : n ≤ n') (hb : b ≤ 255) (hg : g ≤ 127) : ticksV n b g ≤ ticksV n' b g := by
  rw [tk_of h0 (by omega) hb hg, tk_of (by omega) h1 hb hg]
  split
  · split
    · omega
    · have : 2 ≤ tkN (n' / 7 - 1) b (max g 1) := by unfold tkN; omega
      omega
  · rw [if_neg (by omega)]
    have := tkN_mono (b := b) (G := max g 1) (show n / 7 - 1 ≤ n' / 7 - 1 by have := Nat.div_le_div_right (c := 7) hn; omega)
    omega
theorem tk_gap {n b g g' : Nat} (h0 : 1 ≤ n) (h1 : n ≤ 4095) (hb : b ≤ 255) (hg : g ≤ g') (hg' : g' ≤ 127) : ticksV n b g ≤ ticksV n b g' := by
  rw [tk_of h0 h1 hb (by omega), tk_of h0 h1 hb hg']
  split
  · omega
  · have := tkN_gap (s := n / 7 - 1) (b := b) (show max g 1 ≤ max g' 1 by omega)
    omega
theorem tk_pos {n b g : Nat} (h0 : 1 ≤ n) (h1 : n ≤ 4095) (hb : b ≤ 255) (hg : g ≤ 127) : 1 ≤ ticksV n b g := by
  rw [tk_of h0 h1 hb hg]
  split
  · omega
  · unfold tkN; omega
theorem tk_one {n g : Nat} (h0 : 1 ≤ n) (h1 : n ≤ 4095) (hg : g ≤ 127) : ticksV n 1 g ≤ 2 + (n / 7 : Nat) := by
  have := tk_of (b := 1) h0 h1 (by omega) hg
  rw [show ((1 : Nat) : Int) = 1 by rfl] at this
  rw [this]
  split
  · omega
  · unfold tkN
    simp
    omega
theorem tk_free {n b : Nat} (h0 : 1 ≤ n) (h1 : n ≤ 4095) (hb : b ≤ 255) : ticksV n b 0 = ticksV n 0 1 := by
  have e1 := tk_of (b := b) (g := 0) h0 h1 hb (by omega)
  have e2 := tk_of (b := 0) (g := 1) h0 h1 (by omega) (by omega)
  rw [show ((0 : Nat) : Int) = 0 by rfl] at e1 e2
  rw [show ((1 : Nat) : Int) = 1 by rfl] at e2
  rw [e1, e2]
  split
  · rfl
  · unfold tkN
    have h3 : (n / 7 - 1) / b ≤ n / 7 - 1 := Nat.div_le_self _ _
    by_cases hb0 : b = 0
    · simp [hb0]
    · simp [hb0]
      omega
theorem grows_calls (n : UInt16) (more bl gp wider : UInt8) : PureCalls Try.prog 19 [U16 n, U8 more, U8 bl, U8 gp, U8 wider] (PB true) := by
  refine PureCalls.of tabOK mixed Try.func19 rfl rfl (by decide +kernel) (by simp [Try.ntmps19]) ?_
  have hn : n.toNat < 65536 := n.toNat_lt
  have hm : more.toNat < 256 := more.toNat_lt
  have hb : bl.toNat < 256 := bl.toNat_lt
  have hg : gp.toNat < 256 := gp.toNat_lt
  have hw : wider.toNat < 256 := wider.toNat_lt
  obtain ⟨k, hk⟩ : ∃ k, n.toNat % 4095 + 1 = k := ⟨_, rfl⟩
  obtain ⟨g, hgg⟩ : ∃ g, gp.toNat % 128 = g := ⟨_, rfl⟩
  have hk1 : 1 ≤ k ∧ k ≤ 4095 := by omega
  have hg1 : g ≤ 127 := by omega
  have e1 : (n.toNat : Int).tmod 4095 = ((n.toNat % 4095 : Nat) : Int) := rfl
  have e2 : IntKind.wrap .i64 ((n.toNat % 4095 : Nat) : Int) = ((n.toNat % 4095 : Nat) : Int) := wrapI64 (by omega)
  have e3 : IntKind.wrap .i64 (((n.toNat % 4095 : Nat) : Int) + 1) = k := by rw [wrapI64 (by omega)]; omega
  have e4 : IntKind.wrap .i64 (more.toNat : Int) = more.toNat := wrapI64 (by omega)
  have e5 : IntKind.wrap .i64 ((k : Int) + (more.toNat : Int)) = ((k + more.toNat : Nat) : Int) := by rw [wrapI64 (by omega)]; omega
  have e6 : (if (4095 : Int) < ((k + more.toNat : Nat) : Int) then (4095 : Int) else ((k + more.toNat : Nat) : Int)) = ((min (k + more.toNat) 4095 : Nat) : Int) := by split <;> omega
  have e7 : (gp.toNat : Int).tmod 128 = (g : Int) := by rw [← hgg]; rfl
  have e8 : IntKind.wrap .i64 (g : Int) = g := wrapI64 (by omega)
  have e9 : IntKind.wrap .i64 (wider.toNat : Int) = wider.toNat := wrapI64 (by omega)
  have e10 : IntKind.wrap .i64 ((g : Int) + (wider.toNat : Int)) = ((g + wider.toNat : Nat) : Int) := by rw [wrapI64 (by omega)]; omega
  have e11 : (if (127 : Int) < ((g + wider.toNat : Nat) : Int) then (127 : Int) else ((g + wider.toNat : Nat) : Int)) = ((min (g + wider.toNat) 127 : Nat) : Int) := by split <;> omega
  have e12 : IntKind.wrap .i64 (bl.toNat : Int) = bl.toNat := wrapI64 (by omega)
  have e13 : IntKind.wrap .i64 ((k : Int).tdiv 7) = ((k / 7 : Nat) : Int) := by rw [show (k : Int).tdiv 7 = ((k / 7 : Nat) : Int) by rfl]; exact wrapI64 (by omega)
  have e14 : IntKind.wrap .i64 (2 + ((k / 7 : Nat) : Int)) = 2 + ((k / 7 : Nat) : Int) := wrapI64 (by omega)
  have p1 := tk_pos (b := bl.toNat) (g := g) hk1.1 hk1.2 (by omega) hg1
  have p2 := tk_mono (n := k) (n' := min (k + more.toNat) 4095) (b := bl.toNat) (g := g) hk1.1 (by omega) (by omega) (by omega) hg1
  have p3 := tk_gap (n := k) (b := bl.toNat) (g := g) (g' := min (g + wider.toNat) 127) hk1.1 hk1.2 (by omega) (by omega) (by omega)
  have p4 := tk_one (g := g) hk1.1 hk1.2 hg1
  have p5 := tk_free (b := bl.toNat) hk1.1 hk1.2 (by omega)
  have c1 := ticks_calls k bl.toNat g
  have c2 := ticks_calls (min (k + more.toNat) 4095 : Nat) bl.toNat g
  have c3 := ticks_calls k bl.toNat (min (g + wider.toNat) 127 : Nat)
  have c4 := ticks_calls k 1 g
  have c5 := ticks_calls k bl.toNat 0
  have c6 := ticks_calls k 0 1
  generalize ticksV k bl.toNat g = t1 at *
  generalize ticksV (min (k + more.toNat) 4095 : Nat) bl.toNat g = t2 at *
  generalize ticksV k bl.toNat (min (g + wider.toNat) 127 : Nat) = t3 at *
  generalize ticksV k 1 g = t4 at *
  generalize ticksV k bl.toNat 0 = t5 at *
  generalize ticksV k 0 1 = t6 at *
  have f1 : decide (t1 ≥ 1) = true := by simpa using p1
  have f2 : decide (t2 ≥ t1) = true := by simpa using p2
  have f3 : decide (t3 ≥ t1) = true := by simpa using p3
  have f4 : decide (t4 ≤ 2 + ((k / 7 : Nat) : Int)) = true := by simpa using p4
  have f5 : decide (t5 = t6) = true := by simpa using p5
  simp only [go_sem, Nat.reduceAdd, Nat.reduceSub, Nat.reduceMul, Nat.reduceLT, Nat.reduceLeDiff, Nat.reduceEqDiff, Nat.reduceBEq, Int.reduceToNat, Int.reduceLT, Int.reduceLE, Int.reduceEq, Int.reduceNe, Int.reduceAdd, Int.reduceSub, Int.reduceMul, Int.reduceNeg, ↓reduceIte, reduceCtorEq, Try.ntmps19, Try.results19]
  (refine CallA.pure (headL_calls) (by simp only [go_sem, Nat.reduceAdd, Nat.reduceSub, Nat.reduceMul, Nat.reduceLT, Nat.reduceLeDiff, Nat.reduceEqDiff, Nat.reduceBEq, Int.reduceToNat, Int.reduceLT, Int.reduceLE, Int.reduceEq, Int.reduceNe, Int.reduceAdd, Int.reduceSub, Int.reduceMul, Int.reduceNeg, ↓reduceIte, reduceCtorEq, e1, e2, e3, e4, e5, e6, e7, e8, e9, e10, e11, e12] <;> first | rfl | decide) ?_; simp only [go_sem, Nat.reduceAdd, Nat.reduceSub, Nat.reduceMul, Nat.reduceLT, Nat.reduceLeDiff, Nat.reduceEqDiff, Nat.reduceBEq, Int.reduceToNat, Int.reduceLT, Int.reduceLE, Int.reduceEq, Int.reduceNe, Int.reduceAdd, Int.reduceSub, Int.reduceMul, Int.reduceNeg, ↓reduceIte, reduceCtorEq, e1, e2, e3, e4, e5, e6, e7, e8, e9, e10, e11, e12])
  (refine CallA.pure (c1) (by simp only [go_sem, Nat.reduceAdd, Nat.reduceSub, Nat.reduceMul, Nat.reduceLT, Nat.reduceLeDiff, Nat.reduceEqDiff, Nat.reduceBEq, Int.reduceToNat, Int.reduceLT, Int.reduceLE, Int.reduceEq, Int.reduceNe, Int.reduceAdd, Int.reduceSub, Int.reduceMul, Int.reduceNeg, ↓reduceIte, reduceCtorEq, f1] <;> first | rfl | decide) ?_; simp only [go_sem, Nat.reduceAdd, Nat.reduceSub, Nat.reduceMul, Nat.reduceLT, Nat.reduceLeDiff, Nat.reduceEqDiff, Nat.reduceBEq, Int.reduceToNat, Int.reduceLT, Int.reduceLE, Int.reduceEq, Int.reduceNe, Int.reduceAdd, Int.reduceSub, Int.reduceMul, Int.reduceNeg, ↓reduceIte, reduceCtorEq, f1])
  (refine CallA.pure (c2) (by simp only [go_sem, Nat.reduceAdd, Nat.reduceSub, Nat.reduceMul, Nat.reduceLT, Nat.reduceLeDiff, Nat.reduceEqDiff, Nat.reduceBEq, Int.reduceToNat, Int.reduceLT, Int.reduceLE, Int.reduceEq, Int.reduceNe, Int.reduceAdd, Int.reduceSub, Int.reduceMul, Int.reduceNeg, ↓reduceIte, reduceCtorEq, f2, e12] <;> first | rfl | decide) ?_; simp only [go_sem, Nat.reduceAdd, Nat.reduceSub, Nat.reduceMul, Nat.reduceLT, Nat.reduceLeDiff, Nat.reduceEqDiff, Nat.reduceBEq, Int.reduceToNat, Int.reduceLT, Int.reduceLE, Int.reduceEq, Int.reduceNe, Int.reduceAdd, Int.reduceSub, Int.reduceMul, Int.reduceNeg, ↓reduceIte, reduceCtorEq, f2, e12])
  (refine CallA.pure (c3) (by simp only [go_sem, Nat.reduceAdd, Nat.reduceSub, Nat.reduceMul, Nat.reduceLT, Nat.reduceLeDiff, Nat.reduceEqDiff, Nat.reduceBEq, Int.reduceToNat, Int.reduceLT, Int.reduceLE, Int.reduceEq, Int.reduceNe, Int.reduceAdd, Int.reduceSub, Int.reduceMul, Int.reduceNeg, ↓reduceIte, reduceCtorEq, f3, e12] <;> first | rfl | decide) ?_; simp only [go_sem, Nat.reduceAdd, Nat.reduceSub, Nat.reduceMul, Nat.reduceLT, Nat.reduceLeDiff, Nat.reduceEqDiff, Nat.reduceBEq, Int.reduceToNat, Int.reduceLT, Int.reduceLE, Int.reduceEq, Int.reduceNe, Int.reduceAdd, Int.reduceSub, Int.reduceMul, Int.reduceNeg, ↓reduceIte, reduceCtorEq, f3, e12])
  (refine CallA.pure (c4) (by simp only [go_sem, Nat.reduceAdd, Nat.reduceSub, Nat.reduceMul, Nat.reduceLT, Nat.reduceLeDiff, Nat.reduceEqDiff, Nat.reduceBEq, Int.reduceToNat, Int.reduceLT, Int.reduceLE, Int.reduceEq, Int.reduceNe, Int.reduceAdd, Int.reduceSub, Int.reduceMul, Int.reduceNeg, ↓reduceIte, reduceCtorEq, f4, e12, e13, e14] <;> first | rfl | decide) ?_; simp only [go_sem, Nat.reduceAdd, Nat.reduceSub, Nat.reduceMul, Nat.reduceLT, Nat.reduceLeDiff, Nat.reduceEqDiff, Nat.reduceBEq, Int.reduceToNat, Int.reduceLT, Int.reduceLE, Int.reduceEq, Int.reduceNe, Int.reduceAdd, Int.reduceSub, Int.reduceMul, Int.reduceNeg, ↓reduceIte, reduceCtorEq, f4, e12, e13, e14])
  (refine CallA.pure (c5) (by simp only [go_sem, Nat.reduceAdd, Nat.reduceSub, Nat.reduceMul, Nat.reduceLT, Nat.reduceLeDiff, Nat.reduceEqDiff, Nat.reduceBEq, Int.reduceToNat, Int.reduceLT, Int.reduceLE, Int.reduceEq, Int.reduceNe, Int.reduceAdd, Int.reduceSub, Int.reduceMul, Int.reduceNeg, ↓reduceIte, reduceCtorEq, e12] <;> first | rfl | decide) ?_; simp only [go_sem, Nat.reduceAdd, Nat.reduceSub, Nat.reduceMul, Nat.reduceLT, Nat.reduceLeDiff, Nat.reduceEqDiff, Nat.reduceBEq, Int.reduceToNat, Int.reduceLT, Int.reduceLE, Int.reduceEq, Int.reduceNe, Int.reduceAdd, Int.reduceSub, Int.reduceMul, Int.reduceNeg, ↓reduceIte, reduceCtorEq, e12])
  (refine CallA.pure (c6) (by simp only [go_sem, Nat.reduceAdd, Nat.reduceSub, Nat.reduceMul, Nat.reduceLT, Nat.reduceLeDiff, Nat.reduceEqDiff, Nat.reduceBEq, Int.reduceToNat, Int.reduceLT, Int.reduceLE, Int.reduceEq, Int.reduceNe, Int.reduceAdd, Int.reduceSub, Int.reduceMul, Int.reduceNeg, ↓reduceIte, reduceCtorEq, f5, Try.ntmps19, Try.results19] <;> first | rfl | decide) ?_; simp only [go_sem, Nat.reduceAdd, Nat.reduceSub, Nat.reduceMul, Nat.reduceLT, Nat.reduceLeDiff, Nat.reduceEqDiff, Nat.reduceBEq, Int.reduceToNat, Int.reduceLT, Int.reduceLE, Int.reduceEq, Int.reduceNe, Int.reduceAdd, Int.reduceSub, Int.reduceMul, Int.reduceNeg, ↓reduceIte, reduceCtorEq, f5, Try.ntmps19, Try.results19])
end Go.Proofs.Ytpnhnobnjcknjaa.Pe
