import Derived.Test.YtpnhnobnjcknjaaE6
import Derived.Test.YtpnhnobnjcknjaaE9
namespace Go.Proofs.Ytpnhnobnjcknjaa.Pe
open Go.Pe Go.RowKit
set_option maxRecDepth 20000
set_option maxHeartbeats 4000000
set_option linter.unusedSimpArgs false
set_option linter.unusedVariables false
/-- What the law's guard lets out. -/
def greatL (t : List UInt8) (room block gap : Int) (fates : List Int) : Bool :=
  decide (5000 < t.length) || decide (2000 < fates.length) || decide (room < 0) || decide (4095 < room) || decide (block < 0) || decide (255 < block) || decide (gap < 0) || decide (127 < gap) || decide (6000 < (((t.length / 7 : Nat) : Int) + 1) * (gap + 2))
theorem greatL_calls (t : List UInt8) (room block gap : Int) (fates : List Int) : PureCalls Try.prog 45 [bytesPV t, PI room, PI block, PI gap, intsPV fates] (PB (greatL t room block gap fates)) := by
  refine PureCalls.of tabOK mixed Try.func45 rfl rfl (by decide +kernel) (by simp [Try.ntmps45]) ?_
  by_cases h0 : 5000 < t.length
  · have e : greatL t room block gap fates = true := by simp [greatL, h0]
    have g0 : decide ((t.length : Int) > 5000) = true := by simp only [decide_eq_true_eq]; omega
    rw [e]
    simp only [go_sem, Nat.reduceAdd, Nat.reduceSub, Nat.reduceMul, Nat.reduceLT, Nat.reduceLeDiff, Nat.reduceEqDiff, Nat.reduceBEq, Int.reduceToNat, Int.reduceLT, Int.reduceLE, Int.reduceEq, Int.reduceNe, Int.reduceAdd, Int.reduceSub, Int.reduceMul, Int.reduceNeg, ↓reduceIte, reduceCtorEq, g0, List.length_map, Try.ntmps45, Try.results45]
  have g0 : decide ((t.length : Int) > 5000) = false := by simp only [decide_eq_false_iff_not]; omega
  by_cases h1 : 2000 < fates.length
  · have e : greatL t room block gap fates = true := by simp [greatL, h1]
    have g1 : decide ((fates.length : Int) > 2000) = true := by simp only [decide_eq_true_eq]; omega
    rw [e]
    simp only [go_sem, Nat.reduceAdd, Nat.reduceSub, Nat.reduceMul, Nat.reduceLT, Nat.reduceLeDiff, Nat.reduceEqDiff, Nat.reduceBEq, Int.reduceToNat, Int.reduceLT, Int.reduceLE, Int.reduceEq, Int.reduceNe, Int.reduceAdd, Int.reduceSub, Int.reduceMul, Int.reduceNeg, ↓reduceIte, reduceCtorEq, g0, g1, List.length_map, Try.ntmps45, Try.results45]
  have g1 : decide ((fates.length : Int) > 2000) = false := by simp only [decide_eq_false_iff_not]; omega
  by_cases h2 : room < 0
  · have e : greatL t room block gap fates = true := by simp [greatL, h2]
    have g2 : decide (room < 0) = true := by simp only [decide_eq_true_eq]; omega
    rw [e]
    simp only [go_sem, Nat.reduceAdd, Nat.reduceSub, Nat.reduceMul, Nat.reduceLT, Nat.reduceLeDiff, Nat.reduceEqDiff, Nat.reduceBEq, Int.reduceToNat, Int.reduceLT, Int.reduceLE, Int.reduceEq, Int.reduceNe, Int.reduceAdd, Int.reduceSub, Int.reduceMul, Int.reduceNeg, ↓reduceIte, reduceCtorEq, g0, g1, g2, List.length_map, Try.ntmps45, Try.results45]
  have g2 : decide (room < 0) = false := by simp only [decide_eq_false_iff_not]; omega
  by_cases h3 : 4095 < room
  · have e : greatL t room block gap fates = true := by simp [greatL, h3]
    have g3 : decide (room > 4095) = true := by simp only [decide_eq_true_eq]; omega
    rw [e]
    simp only [go_sem, Nat.reduceAdd, Nat.reduceSub, Nat.reduceMul, Nat.reduceLT, Nat.reduceLeDiff, Nat.reduceEqDiff, Nat.reduceBEq, Int.reduceToNat, Int.reduceLT, Int.reduceLE, Int.reduceEq, Int.reduceNe, Int.reduceAdd, Int.reduceSub, Int.reduceMul, Int.reduceNeg, ↓reduceIte, reduceCtorEq, g0, g1, g2, g3, List.length_map, Try.ntmps45, Try.results45]
  have g3 : decide (room > 4095) = false := by simp only [decide_eq_false_iff_not]; omega
  by_cases h4 : block < 0
  · have e : greatL t room block gap fates = true := by simp [greatL, h4]
    have g4 : decide (block < 0) = true := by simp only [decide_eq_true_eq]; omega
    rw [e]
    simp only [go_sem, Nat.reduceAdd, Nat.reduceSub, Nat.reduceMul, Nat.reduceLT, Nat.reduceLeDiff, Nat.reduceEqDiff, Nat.reduceBEq, Int.reduceToNat, Int.reduceLT, Int.reduceLE, Int.reduceEq, Int.reduceNe, Int.reduceAdd, Int.reduceSub, Int.reduceMul, Int.reduceNeg, ↓reduceIte, reduceCtorEq, g0, g1, g2, g3, g4, List.length_map, Try.ntmps45, Try.results45]
  have g4 : decide (block < 0) = false := by simp only [decide_eq_false_iff_not]; omega
  by_cases h5 : 255 < block
  · have e : greatL t room block gap fates = true := by simp [greatL, h5]
    have g5 : decide (block > 255) = true := by simp only [decide_eq_true_eq]; omega
    rw [e]
    simp only [go_sem, Nat.reduceAdd, Nat.reduceSub, Nat.reduceMul, Nat.reduceLT, Nat.reduceLeDiff, Nat.reduceEqDiff, Nat.reduceBEq, Int.reduceToNat, Int.reduceLT, Int.reduceLE, Int.reduceEq, Int.reduceNe, Int.reduceAdd, Int.reduceSub, Int.reduceMul, Int.reduceNeg, ↓reduceIte, reduceCtorEq, g0, g1, g2, g3, g4, g5, List.length_map, Try.ntmps45, Try.results45]
  have g5 : decide (block > 255) = false := by simp only [decide_eq_false_iff_not]; omega
  by_cases h6 : gap < 0
  · have e : greatL t room block gap fates = true := by simp [greatL, h6]
    have g6 : decide (gap < 0) = true := by simp only [decide_eq_true_eq]; omega
    rw [e]
    simp only [go_sem, Nat.reduceAdd, Nat.reduceSub, Nat.reduceMul, Nat.reduceLT, Nat.reduceLeDiff, Nat.reduceEqDiff, Nat.reduceBEq, Int.reduceToNat, Int.reduceLT, Int.reduceLE, Int.reduceEq, Int.reduceNe, Int.reduceAdd, Int.reduceSub, Int.reduceMul, Int.reduceNeg, ↓reduceIte, reduceCtorEq, g0, g1, g2, g3, g4, g5, g6, List.length_map, Try.ntmps45, Try.results45]
  have g6 : decide (gap < 0) = false := by simp only [decide_eq_false_iff_not]; omega
  by_cases h7 : 127 < gap
  · have e : greatL t room block gap fates = true := by simp [greatL, h7]
    have g7 : decide (gap > 127) = true := by simp only [decide_eq_true_eq]; omega
    rw [e]
    simp only [go_sem, Nat.reduceAdd, Nat.reduceSub, Nat.reduceMul, Nat.reduceLT, Nat.reduceLeDiff, Nat.reduceEqDiff, Nat.reduceBEq, Int.reduceToNat, Int.reduceLT, Int.reduceLE, Int.reduceEq, Int.reduceNe, Int.reduceAdd, Int.reduceSub, Int.reduceMul, Int.reduceNeg, ↓reduceIte, reduceCtorEq, g0, g1, g2, g3, g4, g5, g6, g7, List.length_map, Try.ntmps45, Try.results45]
  have g7 : decide (gap > 127) = false := by simp only [decide_eq_false_iff_not]; omega
  have e1 : (t.length : Int).tdiv 7 = ((t.length / 7 : Nat) : Int) := rfl
  have e2 : IntKind.wrap .i64 ((t.length / 7 : Nat) : Int) = ((t.length / 7 : Nat) : Int) := wrapI64 (by omega)
  have e3 : IntKind.wrap .i64 (((t.length / 7 : Nat) : Int) + 1) = ((t.length / 7 : Nat) : Int) + 1 := wrapI64 (by omega)
  have e4 : IntKind.wrap .i64 (gap + 2) = gap + 2 := wrapI64 (by omega)
  have q1 : 0 ≤ (((t.length / 7 : Nat) : Int) + 1) * (gap + 2) := Int.mul_nonneg (by omega) (by omega)
  have q2 : (((t.length / 7 : Nat) : Int) + 1) * (gap + 2) ≤ 5001 * 129 := Int.mul_le_mul (by omega) (by omega) (by omega) (by omega)
  have e5 : IntKind.wrap .i64 ((((t.length / 7 : Nat) : Int) + 1) * (gap + 2)) = (((t.length / 7 : Nat) : Int) + 1) * (gap + 2) := wrapI64 (by omega)
  have e : greatL t room block gap fates = decide (6000 < (((t.length / 7 : Nat) : Int) + 1) * (gap + 2)) := by simp only [greatL, decide_eq_false h0, decide_eq_false h1, decide_eq_false h2, decide_eq_false h3, decide_eq_false h4, decide_eq_false h5, decide_eq_false h6, decide_eq_false h7, Bool.false_or]
  rw [e]
  have e6 : decide ((((t.length / 7 : Nat) : Int) + 1) * (gap + 2) > 6000) = decide (6000 < (((t.length / 7 : Nat) : Int) + 1) * (gap + 2)) := rfl
  simp only [go_sem, Nat.reduceAdd, Nat.reduceSub, Nat.reduceMul, Nat.reduceLT, Nat.reduceLeDiff, Nat.reduceEqDiff, Nat.reduceBEq, Int.reduceToNat, Int.reduceLT, Int.reduceLE, Int.reduceEq, Int.reduceNe, Int.reduceAdd, Int.reduceSub, Int.reduceMul, Int.reduceNeg, ↓reduceIte, reduceCtorEq, g0, g1, g2, g3, g4, g5, g6, g7, List.length_map, e1, e2, e3, e4, e5, e6, Try.ntmps45, Try.results45]
theorem sameL_calls (s : Snd) (r : Rcv) : PureCalls Try.prog 47 [s.pv, s.pv, r.pv, r.pv] (PB true) := by
  refine PureCalls.of tabOK mixed Try.func47 rfl rfl (by decide +kernel) (by simp [Try.ntmps47]) ?_
  simp only [go_sem, Nat.reduceAdd, Nat.reduceSub, Nat.reduceMul, Nat.reduceLT, Nat.reduceLeDiff, Nat.reduceEqDiff, Nat.reduceBEq, Int.reduceToNat, Int.reduceLT, Int.reduceLE, Int.reduceEq, Int.reduceNe, Int.reduceAdd, Int.reduceSub, Int.reduceMul, Int.reduceNeg, ↓reduceIte, reduceCtorEq, Snd.pv, Rcv.pv, Try.ntmps47, Try.results47]
theorem tkN_step (s b G : Nat) : tkN (s + 1) b G = tkN s b G + (if b ≠ 0 ∧ (s + 1) % b = 0 then 1 else G) := by
  unfold tkN
  by_cases hb : b = 0
  · simp [hb, Nat.add_mul]; omega
  · rw [if_neg hb, if_neg hb]
    have h1 : (s + 1) / b = s / b + if b ∣ s + 1 then 1 else 0 := Nat.succ_div
    have hle : s / b ≤ s := Nat.div_le_self _ _
    by_cases hd : (s + 1) % b = 0
    · have hdv : b ∣ s + 1 := Nat.dvd_of_mod_eq_zero hd
      rw [if_pos hdv] at h1
      rw [if_pos ⟨hb, hd⟩, h1]
      have : s + 1 - (s / b + 1) = s - s / b := by omega
      rw [this]
      omega
    · have hdv : ¬ b ∣ s + 1 := fun h => hd (Nat.mod_eq_zero_of_dvd h)
      rw [if_neg hdv] at h1
      rw [if_neg (fun h => hd h.2), h1]
      have : s + 1 - (s / b + 0) = s - s / b + 1 := by omega
      rw [this, Nat.add_mul]
      omega
theorem tkN_le {s b G : Nat} (hs : s ≤ 5000) (hG : G ≤ 127) : tkN s b G ≤ 2000000 := by
  unfold tkN
  have h1 : (if b = 0 then 0 else s / b) ≤ s := by split; omega; exact Nat.div_le_self _ _
  have h2 : (s - (if b = 0 then 0 else s / b)) * G ≤ 5000 * 127 := Nat.mul_le_mul (by omega) hG
  omega
def trSt (n b g T i : Nat) : St := ⟨57, [(0, PI n), (1, PI b), (2, PI g), (7, PI T), (8, PI i)], [], 10, 0⟩
def trI (n b g : Nat) (m : Nat) (st : St) : Prop := ∃ i : Nat, 1 ≤ i ∧ i ≤ n / 7 ∧ m = n / 7 - i ∧ st = trSt n b g (tkN (i - 1) b (max g 1)) i
theorem ticksRef_calls (n block gap : Int) : PureCalls Try.prog 44 [PI n, PI block, PI gap] (PI (ticksV n block gap)) := by
  refine PureCalls.of tabOK mixed Try.func44 rfl rfl (by decide +kernel) (by simp [Try.ntmps44]) ?_
  generalize hr : ticksV n block gap = res
  simp only [go_sem, Nat.reduceAdd, Nat.reduceSub, Nat.reduceMul, Nat.reduceLT, Nat.reduceLeDiff, Nat.reduceEqDiff, Nat.reduceBEq, Int.reduceToNat, Int.reduceLT, Int.reduceLE, Int.reduceEq, Int.reduceNe, Int.reduceAdd, Int.reduceSub, Int.reduceMul, Int.reduceNeg, ↓reduceIte, reduceCtorEq, Try.ntmps44, Try.results44]
  by_cases h : n < 1 ∨ 4095 < n ∨ block < 0 ∨ 255 < block ∨ gap < 0 ∨ 127 < gap
  · rw [ticksV, if_pos h] at hr
    subst hr
    repeat' (first | (refine wantK_splitN (fun h => ?_) (fun h => ?_) <;> simp only [go_sem, Nat.reduceAdd, Nat.reduceSub, Nat.reduceMul, Nat.reduceLT, Nat.reduceLeDiff, Nat.reduceEqDiff, Nat.reduceBEq, Int.reduceToNat, Int.reduceLT, Int.reduceLE, Int.reduceEq, Int.reduceNe, Int.reduceAdd, Int.reduceSub, Int.reduceMul, Int.reduceNeg, ↓reduceIte, reduceCtorEq, Try.ntmps44, Try.results44, *]) | (refine wantK_split (fun h => ?_) (fun h => ?_) <;> simp only [go_sem, Nat.reduceAdd, Nat.reduceSub, Nat.reduceMul, Nat.reduceLT, Nat.reduceLeDiff, Nat.reduceEqDiff, Nat.reduceBEq, Int.reduceToNat, Int.reduceLT, Int.reduceLE, Int.reduceEq, Int.reduceNe, Int.reduceAdd, Int.reduceSub, Int.reduceMul, Int.reduceNeg, ↓reduceIte, reduceCtorEq, Try.ntmps44, Try.results44, *]) | (refine condK_splitN (fun h => ?_) (fun h => ?_) <;> simp only [go_sem, Nat.reduceAdd, Nat.reduceSub, Nat.reduceMul, Nat.reduceLT, Nat.reduceLeDiff, Nat.reduceEqDiff, Nat.reduceBEq, Int.reduceToNat, Int.reduceLT, Int.reduceLE, Int.reduceEq, Int.reduceNe, Int.reduceAdd, Int.reduceSub, Int.reduceMul, Int.reduceNeg, ↓reduceIte, reduceCtorEq, Try.ntmps44, Try.results44, *]) | (refine condK_split (fun h => ?_) (fun h => ?_) <;> simp only [go_sem, Nat.reduceAdd, Nat.reduceSub, Nat.reduceMul, Nat.reduceLT, Nat.reduceLeDiff, Nat.reduceEqDiff, Nat.reduceBEq, Int.reduceToNat, Int.reduceLT, Int.reduceLE, Int.reduceEq, Int.reduceNe, Int.reduceAdd, Int.reduceSub, Int.reduceMul, Int.reduceNeg, ↓reduceIte, reduceCtorEq, Try.ntmps44, Try.results44, *]) | (refine drawK_splitN (fun h => ?_) (fun h => ?_) <;> simp only [go_sem, Nat.reduceAdd, Nat.reduceSub, Nat.reduceMul, Nat.reduceLT, Nat.reduceLeDiff, Nat.reduceEqDiff, Nat.reduceBEq, Int.reduceToNat, Int.reduceLT, Int.reduceLE, Int.reduceEq, Int.reduceNe, Int.reduceAdd, Int.reduceSub, Int.reduceMul, Int.reduceNeg, ↓reduceIte, reduceCtorEq, Try.ntmps44, Try.results44, *]) | (refine drawK_split (fun h => ?_) (fun h => ?_) <;> simp only [go_sem, Nat.reduceAdd, Nat.reduceSub, Nat.reduceMul, Nat.reduceLT, Nat.reduceLeDiff, Nat.reduceEqDiff, Nat.reduceBEq, Int.reduceToNat, Int.reduceLT, Int.reduceLE, Int.reduceEq, Int.reduceNe, Int.reduceAdd, Int.reduceSub, Int.reduceMul, Int.reduceNeg, ↓reduceIte, reduceCtorEq, Try.ntmps44, Try.results44, *]) | (refine endD_intro (by decide +kernel) ?_; simp only [go_sem, Nat.reduceAdd, Nat.reduceSub, Nat.reduceMul, Nat.reduceLT, Nat.reduceLeDiff, Nat.reduceEqDiff, Nat.reduceBEq, Int.reduceToNat, Int.reduceLT, Int.reduceLE, Int.reduceEq, Int.reduceNe, Int.reduceAdd, Int.reduceSub, Int.reduceMul, Int.reduceNeg, ↓reduceIte, reduceCtorEq, Try.ntmps44, Try.results44, *]) | (with_reducible refine And.intro ?_ ?_))
    all_goals (exfalso; simp_all; omega)
  obtain ⟨n, rfl⟩ : ∃ k : Nat, n = k := ⟨n.toNat, by omega⟩
  obtain ⟨b, rfl⟩ : ∃ k : Nat, block = k := ⟨block.toNat, by omega⟩
  obtain ⟨g, rfl⟩ : ∃ k : Nat, gap = k := ⟨gap.toNat, by omega⟩
  rw [tk_of (by omega) (by omega) (by omega) (by omega)] at hr
  have g1 : decide ((n : Int) < 1) = false := by simp; omega
  have g2 : decide ((n : Int) > 4095) = false := by simp; omega
  have g3 : decide ((b : Int) < 0) = false := by simp
  have g4 : decide ((b : Int) > 255) = false := by simp; omega
  have g5 : decide ((g : Int) < 0) = false := by simp
  have g6 : decide ((g : Int) > 127) = false := by simp; omega
  by_cases h7 : n ≤ 7
  · have g7 : decide ((n : Int) ≤ 7) = true := by simp; omega
    rw [if_pos h7] at hr
    subst hr
    simp only [go_sem, Nat.reduceAdd, Nat.reduceSub, Nat.reduceMul, Nat.reduceLT, Nat.reduceLeDiff, Nat.reduceEqDiff, Nat.reduceBEq, Int.reduceToNat, Int.reduceLT, Int.reduceLE, Int.reduceEq, Int.reduceNe, Int.reduceAdd, Int.reduceSub, Int.reduceMul, Int.reduceNeg, ↓reduceIte, reduceCtorEq, g1, g2, g3, g4, g5, g6, g7, Try.ntmps44, Try.results44]
  have g7 : decide ((n : Int) ≤ 7) = false := by simp; omega
  rw [if_neg h7] at hr
  subst hr
  simp only [go_sem, Nat.reduceAdd, Nat.reduceSub, Nat.reduceMul, Nat.reduceLT, Nat.reduceLeDiff, Nat.reduceEqDiff, Nat.reduceBEq, Int.reduceToNat, Int.reduceLT, Int.reduceLE, Int.reduceEq, Int.reduceNe, Int.reduceAdd, Int.reduceSub, Int.reduceMul, Int.reduceNeg, ↓reduceIte, reduceCtorEq, g1, g2, g3, g4, g5, g6, g7]
  refine wpA_loop (trI n b g) ⟨_, _, ?_, 1, by omega, by omega, rfl, rfl⟩ ?_
  · have e : tkN (1 - 1) b (max g 1) = 2 := by unfold tkN; simp
    rw [e]
    simp only [go_sem, Nat.reduceAdd, Nat.reduceSub, Nat.reduceMul, Nat.reduceLT, Nat.reduceLeDiff, Nat.reduceEqDiff, Nat.reduceBEq, Int.reduceToNat, Int.reduceLT, Int.reduceLE, Int.reduceEq, Int.reduceNe, Int.reduceAdd, Int.reduceSub, Int.reduceMul, Int.reduceNeg, ↓reduceIte, reduceCtorEq, trSt, Int.natCast_one] <;> rfl
  rintro m st ⟨i, hi0, hi, rfl, rfl⟩
  have e1 : IntKind.wrap .i64 ((n : Int).tdiv 7) = ((n / 7 : Nat) : Int) := by rw [show (n : Int).tdiv 7 = ((n / 7 : Nat) : Int) by rfl]; exact wrapI64 (by omega)
  have hT := tkN_le (s := i - 1) (b := b) (G := max g 1) (by omega) (by omega)
  have hst := tkN_step (i - 1) b (max g 1)
  rw [show i - 1 + 1 = i by omega] at hst
  by_cases hc : i < n / 7
  rotate_left 1
  · have f1 : decide ((i : Int) < ((n / 7 : Nat) : Int)) = false := by simp; omega
    obtain rfl : i = n / 7 := by omega
    simp only [go_sem, Nat.reduceAdd, Nat.reduceSub, Nat.reduceMul, Nat.reduceLT, Nat.reduceLeDiff, Nat.reduceEqDiff, Nat.reduceBEq, Int.reduceToNat, Int.reduceLT, Int.reduceLE, Int.reduceEq, Int.reduceNe, Int.reduceAdd, Int.reduceSub, Int.reduceMul, Int.reduceNeg, ↓reduceIte, reduceCtorEq, trSt, e1, f1, Try.ntmps44, Try.results44]
  have f1 : decide ((i : Int) < ((n / 7 : Nat) : Int)) = true := by simp; omega
  have hw := wrapIN (i := i) (by omega)
  have fin : ∀ st', Weak st' (trSt n b g (tkN i b (max g 1)) (i + 1)) → ∃ m' s'', m' < n / 7 - i ∧ Weak st' s'' ∧ trI n b g m' s'' :=
    fun st' h => ⟨n / 7 - (i + 1), _, by omega, h, i + 1, by omega, by omega, rfl, by rw [show i + 1 - 1 = i by omega]⟩
  generalize tkN (i - 1) b (max g 1) = T at hT hst
  generalize tkN i b (max g 1) = T' at hst fin
  have wg : IntKind.wrap .i64 ((T : Int) + (g : Int)) = ((T + g : Nat) : Int) := by rw [wrapI64 (by omega)]; omega
  have w1 : IntKind.wrap .i64 ((T : Int) + 1) = ((T + 1 : Nat) : Int) := by rw [wrapI64 (by omega)]; omega
  by_cases hb : 0 < b
  · have f2 : decide ((b : Int) > 0) = true := by simp; omega
    have fb : ¬ ((b : Int) = 0) := by omega
    have e2 : (i : Int).tmod (b : Int) = ((i % b : Nat) : Int) := rfl
    by_cases hm : i % b = 0
    · have f3 : decide (((i % b : Nat) : Int) = 0) = true := by simp; omega
      rw [if_pos ⟨by omega, hm⟩] at hst
      subst hst
      simp only [go_sem, Nat.reduceAdd, Nat.reduceSub, Nat.reduceMul, Nat.reduceLT, Nat.reduceLeDiff, Nat.reduceEqDiff, Nat.reduceBEq, Int.reduceToNat, Int.reduceLT, Int.reduceLE, Int.reduceEq, Int.reduceNe, Int.reduceAdd, Int.reduceSub, Int.reduceMul, Int.reduceNeg, ↓reduceIte, reduceCtorEq, trSt, e1, f1, f2, fb, e2, f3, w1, hw]
      refine fin _ ?_
      simp only [go_sem, Nat.reduceAdd, Nat.reduceSub, Nat.reduceMul, Nat.reduceLT, Nat.reduceLeDiff, Nat.reduceEqDiff, Nat.reduceBEq, Int.reduceToNat, Int.reduceLT, Int.reduceLE, Int.reduceEq, Int.reduceNe, Int.reduceAdd, Int.reduceSub, Int.reduceMul, Int.reduceNeg, ↓reduceIte, reduceCtorEq, trSt]
    have f3 : decide (((i % b : Nat) : Int) = 0) = false := by simp; omega
    rw [if_neg (fun h => hm h.2)] at hst
    by_cases hg : g = 0
    · have f4 : decide ((g : Int) = 0) = true := by simp; omega
      rw [show max g 1 = 1 by omega] at hst
      subst hst
      simp only [go_sem, Nat.reduceAdd, Nat.reduceSub, Nat.reduceMul, Nat.reduceLT, Nat.reduceLeDiff, Nat.reduceEqDiff, Nat.reduceBEq, Int.reduceToNat, Int.reduceLT, Int.reduceLE, Int.reduceEq, Int.reduceNe, Int.reduceAdd, Int.reduceSub, Int.reduceMul, Int.reduceNeg, ↓reduceIte, reduceCtorEq, trSt, e1, f1, f2, fb, e2, f3, f4, w1, hw]
      refine fin _ ?_
      simp only [go_sem, Nat.reduceAdd, Nat.reduceSub, Nat.reduceMul, Nat.reduceLT, Nat.reduceLeDiff, Nat.reduceEqDiff, Nat.reduceBEq, Int.reduceToNat, Int.reduceLT, Int.reduceLE, Int.reduceEq, Int.reduceNe, Int.reduceAdd, Int.reduceSub, Int.reduceMul, Int.reduceNeg, ↓reduceIte, reduceCtorEq, trSt]
    · have f4 : decide ((g : Int) = 0) = false := by simp; omega
      rw [show max g 1 = g by omega] at hst
      subst hst
      simp only [go_sem, Nat.reduceAdd, Nat.reduceSub, Nat.reduceMul, Nat.reduceLT, Nat.reduceLeDiff, Nat.reduceEqDiff, Nat.reduceBEq, Int.reduceToNat, Int.reduceLT, Int.reduceLE, Int.reduceEq, Int.reduceNe, Int.reduceAdd, Int.reduceSub, Int.reduceMul, Int.reduceNeg, ↓reduceIte, reduceCtorEq, trSt, e1, f1, f2, fb, e2, f3, f4, wg, hw]
      refine fin _ ?_
      simp only [go_sem, Nat.reduceAdd, Nat.reduceSub, Nat.reduceMul, Nat.reduceLT, Nat.reduceLeDiff, Nat.reduceEqDiff, Nat.reduceBEq, Int.reduceToNat, Int.reduceLT, Int.reduceLE, Int.reduceEq, Int.reduceNe, Int.reduceAdd, Int.reduceSub, Int.reduceMul, Int.reduceNeg, ↓reduceIte, reduceCtorEq, trSt]
  have f2 : decide ((b : Int) > 0) = false := by simp; omega
  rw [if_neg (fun h => h.1 (by omega))] at hst
  by_cases hg : g = 0
  · have f4 : decide ((g : Int) = 0) = true := by simp; omega
    rw [show max g 1 = 1 by omega] at hst
    subst hst
    simp only [go_sem, Nat.reduceAdd, Nat.reduceSub, Nat.reduceMul, Nat.reduceLT, Nat.reduceLeDiff, Nat.reduceEqDiff, Nat.reduceBEq, Int.reduceToNat, Int.reduceLT, Int.reduceLE, Int.reduceEq, Int.reduceNe, Int.reduceAdd, Int.reduceSub, Int.reduceMul, Int.reduceNeg, ↓reduceIte, reduceCtorEq, trSt, e1, f1, f2, f4, w1, hw]
    refine fin _ ?_
    simp only [go_sem, Nat.reduceAdd, Nat.reduceSub, Nat.reduceMul, Nat.reduceLT, Nat.reduceLeDiff, Nat.reduceEqDiff, Nat.reduceBEq, Int.reduceToNat, Int.reduceLT, Int.reduceLE, Int.reduceEq, Int.reduceNe, Int.reduceAdd, Int.reduceSub, Int.reduceMul, Int.reduceNeg, ↓reduceIte, reduceCtorEq, trSt]
  · have f4 : decide ((g : Int) = 0) = false := by simp; omega
    rw [show max g 1 = g by omega] at hst
    subst hst
    simp only [go_sem, Nat.reduceAdd, Nat.reduceSub, Nat.reduceMul, Nat.reduceLT, Nat.reduceLeDiff, Nat.reduceEqDiff, Nat.reduceBEq, Int.reduceToNat, Int.reduceLT, Int.reduceLE, Int.reduceEq, Int.reduceNe, Int.reduceAdd, Int.reduceSub, Int.reduceMul, Int.reduceNeg, ↓reduceIte, reduceCtorEq, trSt, e1, f1, f2, f4, wg, hw]
    refine fin _ ?_
    simp only [go_sem, Nat.reduceAdd, Nat.reduceSub, Nat.reduceMul, Nat.reduceLT, Nat.reduceLeDiff, Nat.reduceEqDiff, Nat.reduceBEq, Int.reduceToNat, Int.reduceLT, Int.reduceLE, Int.reduceEq, Int.reduceNe, Int.reduceAdd, Int.reduceSub, Int.reduceMul, Int.reduceNeg, ↓reduceIte, reduceCtorEq, trSt]
theorem tells20_calls (t : List UInt8) (room block gap : Int) (fates : List Int) (n : Int) : PureCalls Try.prog 12 [bytesPV t, PI room, PI block, PI gap, intsPV fates, PI n] (PB true) := by
  refine PureCalls.of tabOK mixed Try.func12 rfl rfl (by decide +kernel) (by simp [Try.ntmps12]) ?_
  have c1 := ticks_calls n block gap
  have c2 := ticksRef_calls n block gap
  have c3 := greatL_calls t room block gap fates
  simp only [go_sem, Nat.reduceAdd, Nat.reduceSub, Nat.reduceMul, Nat.reduceLT, Nat.reduceLeDiff, Nat.reduceEqDiff, Nat.reduceBEq, Int.reduceToNat, Int.reduceLT, Int.reduceLE, Int.reduceEq, Int.reduceNe, Int.reduceAdd, Int.reduceSub, Int.reduceMul, Int.reduceNeg, ↓reduceIte, reduceCtorEq, Try.ntmps12, Try.results12]
  (refine CallA.pure (headL_calls) (by simp only [go_sem, Nat.reduceAdd, Nat.reduceSub, Nat.reduceMul, Nat.reduceLT, Nat.reduceLeDiff, Nat.reduceEqDiff, Nat.reduceBEq, Int.reduceToNat, Int.reduceLT, Int.reduceLE, Int.reduceEq, Int.reduceNe, Int.reduceAdd, Int.reduceSub, Int.reduceMul, Int.reduceNeg, ↓reduceIte, reduceCtorEq] <;> first | rfl | decide) ?_; simp only [go_sem, Nat.reduceAdd, Nat.reduceSub, Nat.reduceMul, Nat.reduceLT, Nat.reduceLeDiff, Nat.reduceEqDiff, Nat.reduceBEq, Int.reduceToNat, Int.reduceLT, Int.reduceLE, Int.reduceEq, Int.reduceNe, Int.reduceAdd, Int.reduceSub, Int.reduceMul, Int.reduceNeg, ↓reduceIte, reduceCtorEq])
  (refine CallA.pure (c1) (by simp only [go_sem, Nat.reduceAdd, Nat.reduceSub, Nat.reduceMul, Nat.reduceLT, Nat.reduceLeDiff, Nat.reduceEqDiff, Nat.reduceBEq, Int.reduceToNat, Int.reduceLT, Int.reduceLE, Int.reduceEq, Int.reduceNe, Int.reduceAdd, Int.reduceSub, Int.reduceMul, Int.reduceNeg, ↓reduceIte, reduceCtorEq] <;> first | rfl | decide) ?_; simp only [go_sem, Nat.reduceAdd, Nat.reduceSub, Nat.reduceMul, Nat.reduceLT, Nat.reduceLeDiff, Nat.reduceEqDiff, Nat.reduceBEq, Int.reduceToNat, Int.reduceLT, Int.reduceLE, Int.reduceEq, Int.reduceNe, Int.reduceAdd, Int.reduceSub, Int.reduceMul, Int.reduceNeg, ↓reduceIte, reduceCtorEq])
  (refine CallA.pure (c2) (by simp only [go_sem, Nat.reduceAdd, Nat.reduceSub, Nat.reduceMul, Nat.reduceLT, Nat.reduceLeDiff, Nat.reduceEqDiff, Nat.reduceBEq, Int.reduceToNat, Int.reduceLT, Int.reduceLE, Int.reduceEq, Int.reduceNe, Int.reduceAdd, Int.reduceSub, Int.reduceMul, Int.reduceNeg, ↓reduceIte, reduceCtorEq] <;> first | rfl | decide) ?_; simp only [go_sem, Nat.reduceAdd, Nat.reduceSub, Nat.reduceMul, Nat.reduceLT, Nat.reduceLeDiff, Nat.reduceEqDiff, Nat.reduceBEq, Int.reduceToNat, Int.reduceLT, Int.reduceLE, Int.reduceEq, Int.reduceNe, Int.reduceAdd, Int.reduceSub, Int.reduceMul, Int.reduceNeg, ↓reduceIte, reduceCtorEq])
  cases hg : greatL t room block gap fates with
  | true =>
    rw [hg] at c3
    (refine CallA.pure (c3) (by simp only [go_sem, Nat.reduceAdd, Nat.reduceSub, Nat.reduceMul, Nat.reduceLT, Nat.reduceLeDiff, Nat.reduceEqDiff, Nat.reduceBEq, Int.reduceToNat, Int.reduceLT, Int.reduceLE, Int.reduceEq, Int.reduceNe, Int.reduceAdd, Int.reduceSub, Int.reduceMul, Int.reduceNeg, ↓reduceIte, reduceCtorEq, Try.ntmps12, Try.results12] <;> first | rfl | decide) ?_; simp only [go_sem, Nat.reduceAdd, Nat.reduceSub, Nat.reduceMul, Nat.reduceLT, Nat.reduceLeDiff, Nat.reduceEqDiff, Nat.reduceBEq, Int.reduceToNat, Int.reduceLT, Int.reduceLE, Int.reduceEq, Int.reduceNe, Int.reduceAdd, Int.reduceSub, Int.reduceMul, Int.reduceNeg, ↓reduceIte, reduceCtorEq, Try.ntmps12, Try.results12])
  | false =>
    rw [hg] at c3
    have hb : 0 ≤ block ∧ block ≤ 255 := by simp [greatL] at hg; omega
    have c4 := play_calls t room block gap fates hb
    have c5 := playRef_calls t room block gap fates hb
    generalize playV t room block gap fates = x at c4 c5
    obtain ⟨s, r, k⟩ := x
    simp only at c4 c5
    (refine CallA.pure (c3) (by simp only [go_sem, Nat.reduceAdd, Nat.reduceSub, Nat.reduceMul, Nat.reduceLT, Nat.reduceLeDiff, Nat.reduceEqDiff, Nat.reduceBEq, Int.reduceToNat, Int.reduceLT, Int.reduceLE, Int.reduceEq, Int.reduceNe, Int.reduceAdd, Int.reduceSub, Int.reduceMul, Int.reduceNeg, ↓reduceIte, reduceCtorEq] <;> first | rfl | decide) ?_; simp only [go_sem, Nat.reduceAdd, Nat.reduceSub, Nat.reduceMul, Nat.reduceLT, Nat.reduceLeDiff, Nat.reduceEqDiff, Nat.reduceBEq, Int.reduceToNat, Int.reduceLT, Int.reduceLE, Int.reduceEq, Int.reduceNe, Int.reduceAdd, Int.reduceSub, Int.reduceMul, Int.reduceNeg, ↓reduceIte, reduceCtorEq])
    (refine CallA.pure (c4) (by simp only [go_sem, Nat.reduceAdd, Nat.reduceSub, Nat.reduceMul, Nat.reduceLT, Nat.reduceLeDiff, Nat.reduceEqDiff, Nat.reduceBEq, Int.reduceToNat, Int.reduceLT, Int.reduceLE, Int.reduceEq, Int.reduceNe, Int.reduceAdd, Int.reduceSub, Int.reduceMul, Int.reduceNeg, ↓reduceIte, reduceCtorEq, Snd.pv, Rcv.pv] <;> first | rfl | decide) ?_; simp only [go_sem, Nat.reduceAdd, Nat.reduceSub, Nat.reduceMul, Nat.reduceLT, Nat.reduceLeDiff, Nat.reduceEqDiff, Nat.reduceBEq, Int.reduceToNat, Int.reduceLT, Int.reduceLE, Int.reduceEq, Int.reduceNe, Int.reduceAdd, Int.reduceSub, Int.reduceMul, Int.reduceNeg, ↓reduceIte, reduceCtorEq, Snd.pv, Rcv.pv])
    (refine CallA.pure (c5) (by simp only [go_sem, Nat.reduceAdd, Nat.reduceSub, Nat.reduceMul, Nat.reduceLT, Nat.reduceLeDiff, Nat.reduceEqDiff, Nat.reduceBEq, Int.reduceToNat, Int.reduceLT, Int.reduceLE, Int.reduceEq, Int.reduceNe, Int.reduceAdd, Int.reduceSub, Int.reduceMul, Int.reduceNeg, ↓reduceIte, reduceCtorEq, Snd.pv, Rcv.pv] <;> first | rfl | decide) ?_; simp only [go_sem, Nat.reduceAdd, Nat.reduceSub, Nat.reduceMul, Nat.reduceLT, Nat.reduceLeDiff, Nat.reduceEqDiff, Nat.reduceBEq, Int.reduceToNat, Int.reduceLT, Int.reduceLE, Int.reduceEq, Int.reduceNe, Int.reduceAdd, Int.reduceSub, Int.reduceMul, Int.reduceNeg, ↓reduceIte, reduceCtorEq, Snd.pv, Rcv.pv])
    (refine CallA.pure (sameL_calls s r) (by simp only [go_sem, Nat.reduceAdd, Nat.reduceSub, Nat.reduceMul, Nat.reduceLT, Nat.reduceLeDiff, Nat.reduceEqDiff, Nat.reduceBEq, Int.reduceToNat, Int.reduceLT, Int.reduceLE, Int.reduceEq, Int.reduceNe, Int.reduceAdd, Int.reduceSub, Int.reduceMul, Int.reduceNeg, ↓reduceIte, reduceCtorEq, Snd.pv, Rcv.pv, Try.ntmps12, Try.results12] <;> first | rfl | decide) ?_; simp only [go_sem, Nat.reduceAdd, Nat.reduceSub, Nat.reduceMul, Nat.reduceLT, Nat.reduceLeDiff, Nat.reduceEqDiff, Nat.reduceBEq, Int.reduceToNat, Int.reduceLT, Int.reduceLE, Int.reduceEq, Int.reduceNe, Int.reduceAdd, Int.reduceSub, Int.reduceMul, Int.reduceNeg, ↓reduceIte, reduceCtorEq, Snd.pv, Rcv.pv, Try.ntmps12, Try.results12])
end Go.Proofs.Ytpnhnobnjcknjaa.Pe
