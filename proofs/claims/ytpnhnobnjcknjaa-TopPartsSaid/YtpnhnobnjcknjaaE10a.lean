import Derived.Test.YtpnhnobnjcknjaaE6
namespace Go.Proofs.Ytpnhnobnjcknjaa.Pe
open Go.Pe Go.RowKit
set_option maxRecDepth 20000
set_option maxHeartbeats 4000000
set_option linter.unusedSimpArgs false
set_option linter.unusedVariables false
/-- What the law's guard lets out. -/
def greatL (t : List UInt8) (room block gap : Int) (fates : List Int) : Bool :=
  decide (5000 < t.length) || decide (2000 < fates.length) || decide (room < 0) || decide (4095 < room) || decide (block < 0) || decide (255 < block) || decide (gap < 0) || decide (127 < gap) || decide (6000 < (((t.length / 7 : Nat) : Int) + 1) * (gap + 2))
theorem greatL_calls (t : List UInt8) (room block gap : Int) (fates : List Int) : PureCalls Try.prog 45 [bytesPV t, PI room, PI block, PI gap, intsPV fates] (PB (greatL t room block gap fates)) := by
  refine PureCalls.of tabOK mixed Try.func45 rfl rfl (by decide +kernel) (by simp [Try.ntmps45]) ?_
  by_cases h0 : 5000 < t.length
  · have e : greatL t room block gap fates = true := by simp [greatL, h0]
    have g0 : decide ((t.length : Int) > 5000) = true := by simp only [decide_eq_true_eq]; omega
    rw [e]
    simp only [go_sem, Nat.reduceAdd, Nat.reduceSub, Nat.reduceMul, Nat.reduceLT, Nat.reduceLeDiff, Nat.reduceEqDiff, Nat.reduceBEq, Int.reduceToNat, Int.reduceLT, Int.reduceLE, Int.reduceEq, Int.reduceNe, Int.reduceAdd, Int.reduceSub, Int.reduceMul, Int.reduceNeg, ↓reduceIte, reduceCtorEq, g0, List.length_map, Try.ntmps45, Try.results45]
  have g0 : decide ((t.length : Int) > 5000) = false := by simp only [decide_eq_false_iff_not]; omega
  by_cases h1 : 2000 < fates.length
  · have e : greatL t room block gap fates = true := by simp [greatL, h1]
    have g1 : decide ((fates.length : Int) > 2000) = true := by simp only [decide_eq_true_eq]; omega
    rw [e]
    simp only [go_sem, Nat.reduceAdd, Nat.reduceSub, Nat.reduceMul, Nat.reduceLT, Nat.reduceLeDiff, Nat.reduceEqDiff, Nat.reduceBEq, Int.reduceToNat, Int.reduceLT, Int.reduceLE, Int.reduceEq, Int.reduceNe, Int.reduceAdd, Int.reduceSub, Int.reduceMul, Int.reduceNeg, ↓reduceIte, reduceCtorEq, g0, g1, List.length_map, Try.ntmps45, Try.results45]
  have g1 : decide ((fates.length : Int) > 2000) = false := by simp only [decide_eq_false_iff_not]; omega
  by_cases h2 : room < 0
  · have e : greatL t room block gap fates = true := by simp [greatL, h2]
    have g2 : decide (room < 0) = true := by simp only [decide_eq_true_eq]; omega
    rw [e]
    simp only [go_sem, Nat.reduceAdd, Nat.reduceSub, Nat.reduceMul, Nat.reduceLT, Nat.reduceLeDiff, Nat.reduceEqDiff, Nat.reduceBEq, Int.reduceToNat, Int.reduceLT, Int.reduceLE, Int.reduceEq, Int.reduceNe, Int.reduceAdd, Int.reduceSub, Int.reduceMul, Int.reduceNeg, ↓reduceIte, reduceCtorEq, g0, g1, g2, List.length_map, Try.ntmps45, Try.results45]
  have g2 : decide (room < 0) = false := by simp only [decide_eq_false_iff_not]; omega
  by_cases h3 : 4095 < room
  · have e : greatL t room block gap fates = true := by simp [greatL, h3]
    have g3 : decide (room > 4095) = true := by simp only [decide_eq_true_eq]; omega
    rw [e]
    simp only [go_sem, Nat.reduceAdd, Nat.reduceSub, Nat.reduceMul, Nat.reduceLT, Nat.reduceLeDiff, Nat.reduceEqDiff, Nat.reduceBEq, Int.reduceToNat, Int.reduceLT, Int.reduceLE, Int.reduceEq, Int.reduceNe, Int.reduceAdd, Int.reduceSub, Int.reduceMul, Int.reduceNeg, ↓reduceIte, reduceCtorEq, g0, g1, g2, g3, List.length_map, Try.ntmps45, Try.results45]
  have g3 : decide (room > 4095) = false := by simp only [decide_eq_false_iff_not]; omega
  by_cases h4 : block < 0
  · have e : greatL t room block gap fates = true := by simp [greatL, h4]
    have g4 : decide (block < 0) = true := by simp only [decide_eq_true_eq]; omega
    rw [e]
    simp only [go_sem, Nat.reduceAdd, Nat.reduceSub, Nat.reduceMul, Nat.reduceLT, Nat.reduceLeDiff, Nat.reduceEqDiff, Nat.reduceBEq, Int.reduceToNat, Int.reduceLT, Int.reduceLE, Int.reduceEq, Int.reduceNe, Int.reduceAdd, Int.reduceSub, Int.reduceMul, Int.reduceNeg, ↓reduceIte, reduceCtorEq, g0, g1, g2, g3, g4, List.length_map, Try.ntmps45, Try.results45]
  have g4 : decide (block < 0) = false := by simp only [decide_eq_false_iff_not]; omega
  by_cases h5 : 255 < block
  · have e : greatL t room block gap fates = true := by simp [greatL, h5]
    have g5 : decide (block > 255) = true := by simp only [decide_eq_true_eq]; omega
    rw [e]
    simp only [go_sem, Nat.reduceAdd, Nat.reduceSub, Nat.reduceMul, Nat.reduceLT, Nat.reduceLeDiff, Nat.reduceEqDiff, Nat.reduceBEq, Int.reduceToNat, Int.reduceLT, Int.reduceLE, Int.reduceEq, Int.reduceNe, Int.reduceAdd, Int.reduceSub, Int.reduceMul, Int.reduceNeg, ↓reduceIte, reduceCtorEq, g0, g1, g2, g3, g4, g5, List.length_map, Try.ntmps45, Try.results45]
  have g5 : decide (block > 255) = false := by simp only [decide_eq_false_iff_not]; omega
  by_cases h6 : gap < 0
  · have e : greatL t room block gap fates = true := by simp [greatL, h6]
    have g6 : decide (gap < 0) = true := by simp only [decide_eq_true_eq]; omega
    rw [e]
    simp only [go_sem, Nat.reduceAdd, Nat.reduceSub, Nat.reduceMul, Nat.reduceLT, Nat.reduceLeDiff, Nat.reduceEqDiff, Nat.reduceBEq, Int.reduceToNat, Int.reduceLT, Int.reduceLE, Int.reduceEq, Int.reduceNe, Int.reduceAdd, Int.reduceSub, Int.reduceMul, Int.reduceNeg, ↓reduceIte, reduceCtorEq, g0, g1, g2, g3, g4, g5, g6, List.length_map, Try.ntmps45, Try.results45]
  have g6 : decide (gap < 0) = false := by simp only [decide_eq_false_iff_not]; omega
  by_cases h7 : 127 < gap
  · have e : greatL t room block gap fates = true := by simp [greatL, h7]
    have g7 : decide (gap > 127) = true := by simp only [decide_eq_true_eq]; omega
    rw [e]
    simp only [go_sem, Nat.reduceAdd, Nat.reduceSub, Nat.reduceMul, Nat.reduceLT, Nat.reduceLeDiff, Nat.reduceEqDiff, Nat.reduceBEq, Int.reduceToNat, Int.reduceLT, Int.reduceLE, Int.reduceEq, Int.reduceNe, Int.reduceAdd, Int.reduceSub, Int.reduceMul, Int.reduceNeg, ↓reduceIte, reduceCtorEq, g0, g1, g2, g3, g4, g5, g6, g7, List.length_map, Try.ntmps45, Try.results45]
  have g7 : decide (gap > 127) = false := by simp only [decide_eq_false_iff_not]; omega
  have e1 : (t.length : Int).tdiv 7 = ((t.length / 7 : Nat) : Int) := rfl
  have e2 : IntKind.wrap .i64 ((t.length / 7 : Nat) : Int) = ((t.length / 7 : Nat) : Int) := wrapI64 (by omega)
  have e3 : IntKind.wrap .i64 (((t.length / 7 : Nat) : Int) + 1) = ((t.length / 7 : Nat) : Int) + 1 := wrapI64 (by omega)
  have e4 : IntKind.wrap .i64 (gap + 2) = gap + 2 := wrapI64 (by omega)
  have q1 : 0 ≤ (((t.length / 7 : Nat) : Int) + 1) * (gap + 2) := Int.mul_nonneg (by omega) (by omega)
  have q2 : (((t.length / 7 : Nat) : Int) + 1) * (gap + 2) ≤ 5001 * 129 := Int.mul_le_mul (by omega) (by omega) (by omega) (by omega)
  have e5 : IntKind.wrap .i64 ((((t.length / 7 : Nat) : Int) + 1) * (gap + 2)) = (((t.length / 7 : Nat) : Int) + 1) * (gap + 2) := wrapI64 (by omega)
  have e : greatL t room block gap fates = decide (6000 < (((t.length / 7 : Nat) : Int) + 1) * (gap + 2)) := by simp only [greatL, decide_eq_false h0, decide_eq_false h1, decide_eq_false h2, decide_eq_false h3, decide_eq_false h4, decide_eq_false h5, decide_eq_false h6, decide_eq_false h7, Bool.false_or]
  rw [e]
  have e6 : decide ((((t.length / 7 : Nat) : Int) + 1) * (gap + 2) > 6000) = decide (6000 < (((t.length / 7 : Nat) : Int) + 1) * (gap + 2)) := rfl
  simp only [go_sem, Nat.reduceAdd, Nat.reduceSub, Nat.reduceMul, Nat.reduceLT, Nat.reduceLeDiff, Nat.reduceEqDiff, Nat.reduceBEq, Int.reduceToNat, Int.reduceLT, Int.reduceLE, Int.reduceEq, Int.reduceNe, Int.reduceAdd, Int.reduceSub, Int.reduceMul, Int.reduceNeg, ↓reduceIte, reduceCtorEq, g0, g1, g2, g3, g4, g5, g6, g7, List.length_map, e1, e2, e3, e4, e5, e6, Try.ntmps45, Try.results45]
theorem sameL_calls (s : Snd) (r : Rcv) : PureCalls Try.prog 47 [s.pv, s.pv, r.pv, r.pv] (PB true) := by
  refine PureCalls.of tabOK mixed Try.func47 rfl rfl (by decide +kernel) (by simp [Try.ntmps47]) ?_
  simp only [go_sem, Nat.reduceAdd, Nat.reduceSub, Nat.reduceMul, Nat.reduceLT, Nat.reduceLeDiff, Nat.reduceEqDiff, Nat.reduceBEq, Int.reduceToNat, Int.reduceLT, Int.reduceLE, Int.reduceEq, Int.reduceNe, Int.reduceAdd, Int.reduceSub, Int.reduceMul, Int.reduceNeg, ↓reduceIte, reduceCtorEq, Snd.pv, Rcv.pv, Try.ntmps47, Try.results47]
theorem tkN_step (s b G : Nat) : tkN (s + 1) b G = tkN s b G + (if b ≠ 0 ∧ (s + 1) % b = 0 then 1 else G) := by
  unfold tkN
  by_cases hb : b = 0
  · simp [hb, Nat.add_mul]; omega
  · rw [if_neg hb, if_neg hb]
    have h1 : (s + 1) / b = s / b + if b ∣ s + 1 then 1 else 0 := Nat.succ_div
    have hle : s / b ≤ s := Nat.div_le_self _ _
    by_cases hd : (s + 1) % b = 0
    · have hdv : b ∣ s + 1 := Nat.dvd_of_mod_eq_zero hd
      rw [if_pos hdv] at h1
      rw [if_pos ⟨hb, hd⟩, h1]
      have : s + 1 - (s / b + 1) = s - s / b := by omega
      rw [this]
      omega
    · have hdv : ¬ b ∣ s + 1 := fun h => hd (Nat.mod_eq_zero_of_dvd h)
      rw [if_neg hdv] at h1
      rw [if_neg (fun h => hd h.2), h1]
      have : s + 1 - (s / b + 0) = s - s / b + 1 := by omega
      rw [this, Nat.add_mul]
      omega
theorem tkN_le {s b G : Nat} (hs : s ≤ 5000) (hG : G ≤ 127) : tkN s b G ≤ 2000000 := by
  unfold tkN
  have h1 : (if b = 0 then 0 else s / b) ≤ s := by split; omega; exact Nat.div_le_self _ _
  have h2 : (s - (if b = 0 then 0 else s / b)) * G ≤ 5000 * 127 := Nat.mul_le_mul (by omega) hG
  omega
end Go.Proofs.Ytpnhnobnjcknjaa.Pe
