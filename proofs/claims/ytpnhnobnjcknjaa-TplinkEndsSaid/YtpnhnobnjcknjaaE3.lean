import Derived.Test.YtpnhnobnjcknjaaE2
namespace Go.Proofs.Ytpnhnobnjcknjaa.Pe
open Go.Pe Go.RowKit
set_option maxRecDepth 20000
set_option maxHeartbeats 4000000
set_option linter.unusedSimpArgs false
set_option linter.unusedVariables false

def ticksV (n block gap : Int) : Int :=
  if n < 1 ∨ 4095 < n ∨ block < 0 ∨ 255 < block ∨ gap < 0 ∨ 127 < gap then 0
  else if n ≤ 7 then 1
  else if 0 < block then 2 + (n.tdiv 7 - 1).tdiv block + (n.tdiv 7 - 1 - (n.tdiv 7 - 1).tdiv block) * (if 1 > gap then 1 else gap)
  else 2 + (n.tdiv 7 - 1) * (if 1 > gap then 1 else gap)
theorem ticks_calls (n block gap : Int) : PureCalls Try.prog 43 [PI n, PI block, PI gap] (PI (ticksV n block gap)) := by
  refine PureCalls.of tabOK mixed Try.func43 rfl rfl (by decide +kernel) (by simp [Try.ntmps43]) ?_
  generalize hr : ticksV n block gap = res
  simp only [go_sem, Nat.reduceAdd, Nat.reduceSub, Nat.reduceMul, Nat.reduceLT, Nat.reduceLeDiff, Nat.reduceEqDiff, Nat.reduceBEq, Int.reduceToNat, Int.reduceLT, Int.reduceLE, Int.reduceEq, Int.reduceNe, Int.reduceAdd, Int.reduceSub, Int.reduceMul, Int.reduceNeg, ↓reduceIte, reduceCtorEq, Try.ntmps43, Try.results43]
  by_cases h : n < 1 ∨ 4095 < n ∨ block < 0 ∨ 255 < block ∨ gap < 0 ∨ 127 < gap
  · rw [ticksV, if_pos h] at hr
    subst hr
    repeat' (first | (refine wantK_splitN (fun h => ?_) (fun h => ?_) <;> simp only [go_sem, Nat.reduceAdd, Nat.reduceSub, Nat.reduceMul, Nat.reduceLT, Nat.reduceLeDiff, Nat.reduceEqDiff, Nat.reduceBEq, Int.reduceToNat, Int.reduceLT, Int.reduceLE, Int.reduceEq, Int.reduceNe, Int.reduceAdd, Int.reduceSub, Int.reduceMul, Int.reduceNeg, ↓reduceIte, reduceCtorEq, Try.ntmps43, Try.results43, *]) | (refine wantK_split (fun h => ?_) (fun h => ?_) <;> simp only [go_sem, Nat.reduceAdd, Nat.reduceSub, Nat.reduceMul, Nat.reduceLT, Nat.reduceLeDiff, Nat.reduceEqDiff, Nat.reduceBEq, Int.reduceToNat, Int.reduceLT, Int.reduceLE, Int.reduceEq, Int.reduceNe, Int.reduceAdd, Int.reduceSub, Int.reduceMul, Int.reduceNeg, ↓reduceIte, reduceCtorEq, Try.ntmps43, Try.results43, *]) | (refine condK_splitN (fun h => ?_) (fun h => ?_) <;> simp only [go_sem, Nat.reduceAdd, Nat.reduceSub, Nat.reduceMul, Nat.reduceLT, Nat.reduceLeDiff, Nat.reduceEqDiff, Nat.reduceBEq, Int.reduceToNat, Int.reduceLT, Int.reduceLE, Int.reduceEq, Int.reduceNe, Int.reduceAdd, Int.reduceSub, Int.reduceMul, Int.reduceNeg, ↓reduceIte, reduceCtorEq, Try.ntmps43, Try.results43, *]) | (refine condK_split (fun h => ?_) (fun h => ?_) <;> simp only [go_sem, Nat.reduceAdd, Nat.reduceSub, Nat.reduceMul, Nat.reduceLT, Nat.reduceLeDiff, Nat.reduceEqDiff, Nat.reduceBEq, Int.reduceToNat, Int.reduceLT, Int.reduceLE, Int.reduceEq, Int.reduceNe, Int.reduceAdd, Int.reduceSub, Int.reduceMul, Int.reduceNeg, ↓reduceIte, reduceCtorEq, Try.ntmps43, Try.results43, *]) | (refine drawK_splitN (fun h => ?_) (fun h => ?_) <;> simp only [go_sem, Nat.reduceAdd, Nat.reduceSub, Nat.reduceMul, Nat.reduceLT, Nat.reduceLeDiff, Nat.reduceEqDiff, Nat.reduceBEq, Int.reduceToNat, Int.reduceLT, Int.reduceLE, Int.reduceEq, Int.reduceNe, Int.reduceAdd, Int.reduceSub, Int.reduceMul, Int.reduceNeg, ↓reduceIte, reduceCtorEq, Try.ntmps43, Try.results43, *]) | (refine drawK_split (fun h => ?_) (fun h => ?_) <;> simp only [go_sem, Nat.reduceAdd, Nat.reduceSub, Nat.reduceMul, Nat.reduceLT, Nat.reduceLeDiff, Nat.reduceEqDiff, Nat.reduceBEq, Int.reduceToNat, Int.reduceLT, Int.reduceLE, Int.reduceEq, Int.reduceNe, Int.reduceAdd, Int.reduceSub, Int.reduceMul, Int.reduceNeg, ↓reduceIte, reduceCtorEq, Try.ntmps43, Try.results43, *]) | (refine endD_intro (by decide +kernel) ?_; simp only [go_sem, Nat.reduceAdd, Nat.reduceSub, Nat.reduceMul, Nat.reduceLT, Nat.reduceLeDiff, Nat.reduceEqDiff, Nat.reduceBEq, Int.reduceToNat, Int.reduceLT, Int.reduceLE, Int.reduceEq, Int.reduceNe, Int.reduceAdd, Int.reduceSub, Int.reduceMul, Int.reduceNeg, ↓reduceIte, reduceCtorEq, Try.ntmps43, Try.results43, *]) | (with_reducible refine And.intro ?_ ?_))
    all_goals (exfalso; simp_all; omega)
  · rw [ticksV, if_neg h] at hr
    have g1 : decide (n < 1) = false := by simp; omega
    have g2 : decide (n > 4095) = false := by simp; omega
    have g3 : decide (block < 0) = false := by simp; omega
    have g4 : decide (block > 255) = false := by simp; omega
    have g5 : decide (gap < 0) = false := by simp; omega
    have g6 : decide (gap > 127) = false := by simp; omega
    by_cases h7 : n ≤ 7
    · have g7 : decide (n ≤ 7) = true := by simpa using h7
      rw [if_pos h7] at hr
      subst hr
      simp only [go_sem, Nat.reduceAdd, Nat.reduceSub, Nat.reduceMul, Nat.reduceLT, Nat.reduceLeDiff, Nat.reduceEqDiff, Nat.reduceBEq, Int.reduceToNat, Int.reduceLT, Int.reduceLE, Int.reduceEq, Int.reduceNe, Int.reduceAdd, Int.reduceSub, Int.reduceMul, Int.reduceNeg, ↓reduceIte, reduceCtorEq, g1, g2, g3, g4, g5, g6, g7, Try.ntmps43, Try.results43]
    · have g7 : decide (n ≤ 7) = false := by simpa using h7
      rw [if_neg h7] at hr
      have q0 : 0 ≤ n.tdiv 7 := Int.tdiv_nonneg (by omega) (by omega)
      have q1 : n.tdiv 7 ≤ 4095 := by have := Int.tdiv_le_self 7 (show 0 ≤ n by omega); omega
      have q2 : 1 ≤ n.tdiv 7 := by rw [Int.tdiv_eq_ediv_of_nonneg (by omega)]; omega
      have w1 : IntKind.wrap .i64 (n.tdiv 7) = n.tdiv 7 := wrapI64 (by omega)
      have w2 : IntKind.wrap .i64 (n.tdiv 7 - 1) = n.tdiv 7 - 1 := wrapI64 (by omega)
      obtain ⟨s, hs⟩ : ∃ s, n.tdiv 7 - 1 = s := ⟨_, rfl⟩
      obtain ⟨g, hg⟩ : ∃ g, (if 1 > gap then (1 : Int) else gap) = g := ⟨_, rfl⟩
      have hg1 : 1 ≤ g ∧ g ≤ 127 := by rw [← hg]; split <;> omega
      rw [hs] at w2 hr
      rw [hg] at hr
      by_cases hb : 0 < block
      · have g8 : decide (block > 0) = true := by simpa using hb
        rw [if_pos hb] at hr
        obtain ⟨q, hq⟩ : ∃ q, s.tdiv block = q := ⟨_, rfl⟩
        have hq0 : 0 ≤ q := by rw [← hq]; exact Int.tdiv_nonneg (by omega) (by omega)
        have hq1 : q ≤ s := by rw [← hq]; exact Int.tdiv_le_self block (by omega)
        have hb0 : ¬ block = 0 := by omega
        have hp : 0 ≤ (s - q) * g := Int.mul_nonneg (by omega) (by omega)
        have hp2 : (s - q) * g ≤ 4095 * 127 := Int.mul_le_mul (by omega) (by omega) (by omega) (by omega)
        have w3 : IntKind.wrap .i64 q = q := wrapI64 (by omega)
        have w4 : IntKind.wrap .i64 (2 + q) = 2 + q := wrapI64 (by omega)
        have w5 : IntKind.wrap .i64 (s - q) = s - q := wrapI64 (by omega)
        have w6 : IntKind.wrap .i64 ((s - q) * g) = (s - q) * g := wrapI64 (by omega)
        have w7 : IntKind.wrap .i64 (2 + q + (s - q) * g) = 2 + q + (s - q) * g := wrapI64 (by omega)
        rw [hq] at hr
        subst hr
        simp only [go_sem, Nat.reduceAdd, Nat.reduceSub, Nat.reduceMul, Nat.reduceLT, Nat.reduceLeDiff, Nat.reduceEqDiff, Nat.reduceBEq, Int.reduceToNat, Int.reduceLT, Int.reduceLE, Int.reduceEq, Int.reduceNe, Int.reduceAdd, Int.reduceSub, Int.reduceMul, Int.reduceNeg, ↓reduceIte, reduceCtorEq, g1, g2, g3, g4, g5, g6, g7, g8, w1, hs, w2, hg, hq, w3, w4, w5, w6, w7, hb0, Try.ntmps43, Try.results43]
      · have g8 : decide (block > 0) = false := by simpa using hb
        rw [if_neg hb] at hr
        have hp : 0 ≤ s * g := Int.mul_nonneg (by omega) (by omega)
        have hp2 : s * g ≤ 4095 * 127 := Int.mul_le_mul (by omega) (by omega) (by omega) (by omega)
        have w4 : IntKind.wrap .i64 (2 + 0) = 2 := wrapI64 (by omega)
        have w4' : IntKind.wrap .i64 2 = 2 := wrapI64 (by omega)
        have w5 : IntKind.wrap .i64 (s - 0) = s := by rw [Int.sub_zero]; exact wrapI64 (by omega)
        have w6 : IntKind.wrap .i64 (s * g) = s * g := wrapI64 (by omega)
        have w7 : IntKind.wrap .i64 (2 + s * g) = 2 + s * g := wrapI64 (by omega)
        subst hr
        simp only [go_sem, Nat.reduceAdd, Nat.reduceSub, Nat.reduceMul, Nat.reduceLT, Nat.reduceLeDiff, Nat.reduceEqDiff, Nat.reduceBEq, Int.reduceToNat, Int.reduceLT, Int.reduceLE, Int.reduceEq, Int.reduceNe, Int.reduceAdd, Int.reduceSub, Int.reduceMul, Int.reduceNeg, ↓reduceIte, reduceCtorEq, g1, g2, g3, g4, g5, g6, g7, g8, w1, hs, w2, hg, w4, w4', w5, w6, w7, Try.ntmps43, Try.results43]
end Go.Proofs.Ytpnhnobnjcknjaa.Pe
