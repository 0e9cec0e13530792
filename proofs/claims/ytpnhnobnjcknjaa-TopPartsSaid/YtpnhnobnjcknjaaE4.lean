import Derived.Test.YtpnhnobnjcknjaaE2
namespace Go.Proofs.Ytpnhnobnjcknjaa.Pe
open Go.Pe Go.RowKit
set_option maxRecDepth 20000
set_option maxHeartbeats 4000000
set_option linter.unusedSimpArgs false
set_option linter.unusedVariables false

def ticksV (n block gap : Int) : Int :=
  if n < 1 ∨ 4095 < n ∨ block < 0 ∨ 255 < block ∨ gap < 0 ∨ 127 < gap then 0
  else if n ≤ 7 then 1
  else if 0 < block then 2 + (n.tdiv 7 - 1).tdiv block + (n.tdiv 7 - 1 - (n.tdiv 7 - 1).tdiv block) * (if 1 > gap then 1 else gap)
  else 2 + (n.tdiv 7 - 1) * (if 1 > gap then 1 else gap)
theorem ticks_calls (n block gap : Int) : PureCalls Try.prog 43 [PI n, PI block, PI gap] (PI (ticksV n block gap)) := by
  refine PureCalls.of tabOK mixed Try.func43 rfl rfl (by decide +kernel) (by simp [Try.ntmps43]) ?_
  generalize hr : ticksV n block gap = res
  simp only [go_sem, Nat.reduceAdd, Nat.reduceSub, Nat.reduceMul, Nat.reduceLT, Nat.reduceLeDiff, Nat.reduceEqDiff, Nat.reduceBEq, Int.reduceToNat, Int.reduceLT, Int.reduceLE, Int.reduceEq, Int.reduceNe, Int.reduceAdd, Int.reduceSub, Int.reduceMul, Int.reduceNeg, ↓reduceIte, reduceCtorEq, Try.ntmps43, Try.results43]
  by_cases h : n < 1 ∨ 4095 < n ∨ block < 0 ∨ 255 < block ∨ gap < 0 ∨ 127 < gap
  · rw [ticksV, if_pos h] at hr
    subst hr
    repeat' (first | (refine wantK_splitN (fun h => ?_) (fun h => ?_) <;> simp only [go_sem, Nat.reduceAdd, Nat.reduceSub, Nat.reduceMul, Nat.reduceLT, Nat.reduceLeDiff, Nat.reduceEqDiff, Nat.reduceBEq, Int.reduceToNat, Int.reduceLT, Int.reduceLE, Int.reduceEq, Int.reduceNe, Int.reduceAdd, Int.reduceSub, Int.reduceMul, Int.reduceNeg, ↓reduceIte, reduceCtorEq, Try.ntmps43, Try.results43, *]) | (refine wantK_split (fun h => ?_) (fun h => ?_) <;> simp only [go_sem, Nat.reduceAdd, Nat.reduceSub, Nat.reduceMul, Nat.reduceLT, Nat.reduceLeDiff, Nat.reduceEqDiff, Nat.reduceBEq, Int.reduceToNat, Int.reduceLT, Int.reduceLE, Int.reduceEq, Int.reduceNe, Int.reduceAdd, Int.reduceSub, Int.reduceMul, Int.reduceNeg, ↓reduceIte, reduceCtorEq, Try.ntmps43, Try.results43, *]) | (refine condK_splitN (fun h => ?_) (fun h => ?_) <;> simp only [go_sem, Nat.reduceAdd, Nat.reduceSub, Nat.reduceMul, Nat.reduceLT, Nat.reduceLeDiff, Nat.reduceEqDiff, Nat.reduceBEq, Int.reduceToNat, Int.reduceLT, Int.reduceLE, Int.reduceEq, Int.reduceNe, Int.reduceAdd, Int.reduceSub, Int.reduceMul, Int.reduceNeg, ↓reduceIte, reduceCtorEq, Try.ntmps43, Try.results43, *]) | (refine condK_split (fun h => ?_) (fun h => ?_) <;> simp only [go_sem, Nat.reduceAdd, Nat.reduceSub, Nat.reduceMul, Nat.reduceLT, Nat.reduceLeDiff, Nat.reduceEqDiff, Nat.reduceBEq, Int.reduceToNat, Int.reduceLT, Int.reduceLE, Int.reduceEq, Int.reduceNe, Int.reduceAdd, Int.reduceSub, Int.reduceMul, Int.reduceNeg, ↓reduceIte, reduceCtorEq, Try.ntmps43, Try.results43, *]) | (refine drawK_splitN (fun h => ?_) (fun h => ?_) <;> simp only [go_sem, Nat.reduceAdd, Nat.reduceSub, Nat.reduceMul, Nat.reduceLT, Nat.reduceLeDiff, Nat.reduceEqDiff, Nat.reduceBEq, Int.reduceToNat, Int.reduceLT, Int.reduceLE, Int.reduceEq, Int.reduceNe, Int.reduceAdd, Int.reduceSub, Int.reduceMul, Int.reduceNeg, ↓reduceIte, reduceCtorEq, Try.ntmps43, Try.results43, *]) | (refine drawK_split (fun h => ?_) (fun h => ?_) <;> simp only [go_sem, Nat.reduceAdd, Nat.reduceSub, Nat.reduceMul, Nat.reduceLT, Nat.reduceLeDiff, Nat.reduceEqDiff, Nat.reduceBEq, Int.reduceToNat, Int.reduceLT, Int.reduceLE, Int.reduceEq, Int.reduceNe, Int.reduceAdd, Int.reduceSub, Int.reduceMul, Int.reduceNeg, ↓reduceIte, reduceCtorEq, Try.ntmps43, Try.results43, *]) | (refine endD_intro (by decide +kernel) ?_; simp only [go_sem, Nat.reduceAdd, Nat.reduceSub, Nat.reduceMul, Nat.reduceLT, Nat.reduceLeDiff, Nat.reduceEqDiff, Nat.reduceBEq, Int.reduceToNat, Int.reduceLT, Int.reduceLE, Int.reduceEq, Int.reduceNe, Int.reduceAdd, Int.reduceSub, Int.reduceMul, Int.reduceNeg, ↓reduceIte, reduceCtorEq, Try.ntmps43, Try.results43, *]) | (with_reducible refine And.intro ?_ ?_))
    all_goals (exfalso; simp_all; omega)
  · rw [ticksV, if_neg h] at hr
    have g1 : decide (n < 1) = false := by simp; omega
    have g2 : decide (n > 4095) = false := by simp; omega
    have g3 : decide (block < 0) = false := by simp; omega
    have g4 : decide (block > 255) = false := by simp; omega
    have g5 : decide (gap < 0) = false := by simp; omega
    have g6 : decide (gap > 127) = false := by simp; omega
    by_cases h7 : n ≤ 7
    · have g7 : decide (n ≤ 7) = true := by simpa using h7
      rw [if_pos h7] at hr
      subst hr
      simp only [go_sem, Nat.reduceAdd, Nat.reduceSub, Nat.reduceMul, Nat.reduceLT, Nat.reduceLeDiff, Nat.reduceEqDiff, Nat.reduceBEq, Int.reduceToNat, Int.reduceLT, Int.reduceLE, Int.reduceEq, Int.reduceNe, Int.reduceAdd, Int.reduceSub, Int.reduceMul, Int.reduceNeg, ↓reduceIte, reduceCtorEq, g1, g2, g3, g4, g5, g6, g7, Try.ntmps43, Try.results43]
    · have g7 : decide (n ≤ 7) = false := by simpa using h7
      rw [if_neg h7] at hr
      have q0 : 0 ≤ n.tdiv 7 := Int.tdiv_nonneg (by omega) (by omega)
      have q1 : n.tdiv 7 ≤ 4095 := by have := Int.tdiv_le_self 7 (show 0 ≤ n by omega); omega
      have q2 : 1 ≤ n.tdiv 7 := by rw [Int.tdiv_eq_ediv_of_nonneg (by omega)]; omega
      have w1 : IntKind.wrap .i64 (n.tdiv 7) = n.tdiv 7 := wrapI64 (by omega)
      have w2 : IntKind.wrap .i64 (n.tdiv 7 - 1) = n.tdiv 7 - 1 := wrapI64 (by omega)
      obtain ⟨s, hs⟩ : ∃ s, n.tdiv 7 - 1 = s := ⟨_, rfl⟩
      obtain ⟨g, hg⟩ : ∃ g, (if 1 > gap then (1 : Int) else gap) = g := ⟨_, rfl⟩
      have hg1 : 1 ≤ g ∧ g ≤ 127 := by rw [← hg]; split <;> omega
      rw [hs] at w2 hr
      rw [hg] at hr
      by_cases hb : 0 < block
      · have g8 : decide (block > 0) = true := by simpa using hb
        rw [if_pos hb] at hr
        obtain ⟨q, hq⟩ : ∃ q, s.tdiv block = q := ⟨_, rfl⟩
        have hq0 : 0 ≤ q := by rw [← hq]; exact Int.tdiv_nonneg (by omega) (by omega)
        have hq1 : q ≤ s := by rw [← hq]; exact Int.tdiv_le_self block (by omega)
        have hb0 : ¬ block = 0 := by omega
        have hp : 0 ≤ (s - q) * g := Int.mul_nonneg (by omega) (by omega)
        have hp2 : (s - q) * g ≤ 4095 * 127 := Int.mul_le_mul (by omega) (by omega) (by omega) (by omega)
        have w3 : IntKind.wrap .i64 q = q := wrapI64 (by omega)
        have w4 : IntKind.wrap .i64 (2 + q) = 2 + q := wrapI64 (by omega)
        have w5 : IntKind.wrap .i64 (s - q) = s - q := wrapI64 (by omega)
        have w6 : IntKind.wrap .i64 ((s - q) * g) = (s - q) * g := wrapI64 (by omega)
        have w7 : IntKind.wrap .i64 (2 + q + (s - q) * g) = 2 + q + (s - q) * g := wrapI64 (by omega)
        rw [hq] at hr
        subst hr
        simp only [go_sem, Nat.reduceAdd, Nat.reduceSub, Nat.reduceMul, Nat.reduceLT, Nat.reduceLeDiff, Nat.reduceEqDiff, Nat.reduceBEq, Int.reduceToNat, Int.reduceLT, Int.reduceLE, Int.reduceEq, Int.reduceNe, Int.reduceAdd, Int.reduceSub, Int.reduceMul, Int.reduceNeg, ↓reduceIte, reduceCtorEq, g1, g2, g3, g4, g5, g6, g7, g8, w1, hs, w2, hg, hq, w3, w4, w5, w6, w7, hb0, Try.ntmps43, Try.results43]
      · have g8 : decide (block > 0) = false := by simpa using hb
        rw [if_neg hb] at hr
        have hp : 0 ≤ s * g := Int.mul_nonneg (by omega) (by omega)
        have hp2 : s * g ≤ 4095 * 127 := Int.mul_le_mul (by omega) (by omega) (by omega) (by omega)
        have w4 : IntKind.wrap .i64 (2 + 0) = 2 := wrapI64 (by omega)
        have w4' : IntKind.wrap .i64 2 = 2 := wrapI64 (by omega)
        have w5 : IntKind.wrap .i64 (s - 0) = s := by rw [Int.sub_zero]; exact wrapI64 (by omega)
        have w6 : IntKind.wrap .i64 (s * g) = s * g := wrapI64 (by omega)
        have w7 : IntKind.wrap .i64 (2 + s * g) = 2 + s * g := wrapI64 (by omega)
        subst hr
        simp only [go_sem, Nat.reduceAdd, Nat.reduceSub, Nat.reduceMul, Nat.reduceLT, Nat.reduceLeDiff, Nat.reduceEqDiff, Nat.reduceBEq, Int.reduceToNat, Int.reduceLT, Int.reduceLE, Int.reduceEq, Int.reduceNe, Int.reduceAdd, Int.reduceSub, Int.reduceMul, Int.reduceNeg, ↓reduceIte, reduceCtorEq, g1, g2, g3, g4, g5, g6, g7, g8, w1, hs, w2, hg, w4, w4', w5, w6, w7, Try.ntmps43, Try.results43]
end Go.Proofs.Ytpnhnobnjcknjaa.Pe

namespace Go.Proofs.Ytpnhnobnjcknjaa.Pe
open Go.Pe Go.RowKit
set_option maxRecDepth 20000
set_option maxHeartbeats 4000000
set_option linter.unusedSimpArgs false
set_option linter.unusedVariables false

theorem fateL_nil (k : Nat) : fateL [] k = 1 := rfl
theorem putW_pass (w : Way) (p : Pdu) : putW w p 1 = ⟨w.u ++ [p] ++ w.h, []⟩ := by simp [putW]
theorem run_go {fates : List Int} {f n : Nat} {L : Lnk} (h : doneL L = false) : runL fates (f + 1) n L = runL fates f (n + 1) (tickL fates L) := by rw [runL, h]; simp
theorem run_done {fates : List Int} {f n : Nat} {L : Lnk} (h : doneL L = true) : runL fates (f + 1) n L = (L, n) := by rw [runL, h]; simp
/-- A text for which there is no room. -/
theorem play_room {t : List UInt8} {room block gap : Int} (h0 : 1 ≤ t.length) (h1 : t.length ≤ 4095) (hr : room < t.length) :
    playV t room block gap [] = (if t.length ≤ 7 then (⟨3, t, t.length, 0, -1, 0, 0, 0, 0⟩ : Snd) else ⟨4, t, 6, 1, -1, 0, 0, 0, 184⟩, failR (freshR room block gap) 182, 1) := by
  have he : newE t = 0 := by rw [newE, if_neg (by omega), if_neg (by omega)]
  rw [playV, if_pos he]
  by_cases h7 : t.length ≤ 7
  · have hs : newS t = ⟨3, t, t.length, 0, -1, 0, 0, 0, 0⟩ := by rw [newS, if_neg (by omega), if_pos h7]
    have hp : newP t = ⟨1, t.length, 0, 0, 0, 0, t⟩ := by rw [newP, if_neg (by omega), if_pos h7]
    have hq : recvV (freshR room block gap) ⟨1, t.length, 0, 0, 0, 0, t⟩ = (failR (freshR room block gap) 182, Pdu.none, false) := by
      have : (freshR room block gap).room < (t.length : Int) := hr
      simp only [recvV, if_true, beginR, if_pos this]
      rfl
    have hst : startL t room block gap [] = ⟨⟨3, t, t.length, 0, -1, 0, 0, 0, 0⟩, freshR room block gap, ⟨[⟨1, t.length, 0, 0, 0, 0, t⟩], []⟩, ⟨[], []⟩, 1⟩ := by rw [startL, hs, hp, fateL_nil, putW_pass]; rfl
    have hrun : runL [] 100000 0 (startL t room block gap []) = (⟨⟨3, t, t.length, 0, -1, 0, 0, 0, 0⟩, failR (freshR room block gap) 182, ⟨[], []⟩, ⟨[], []⟩, 1⟩, 1) := by
      rw [hst]
      show runL [] (99999 + 1) 0 _ = _
      rw [run_go (by simp [doneL])]
      have ht : tickL [] ⟨⟨3, t, t.length, 0, -1, 0, 0, 0, 0⟩, freshR room block gap, ⟨[⟨1, t.length, 0, 0, 0, 0, t⟩], []⟩, ⟨[], []⟩, 1⟩ = ⟨⟨3, t, t.length, 0, -1, 0, 0, 0, 0⟩, failR (freshR room block gap) 182, ⟨[], []⟩, ⟨[], []⟩, 1⟩ := by
        simp [tickL, recvAll, hq, takeAll, nextS, Snd.goes, tickS, tickV, failR]
      rw [ht]
      show runL [] (99998 + 1) 1 _ = _
      rw [run_done (by simp [doneL, failR])]
    rw [hrun, if_pos h7]
  · have hs : newS t = ⟨1, t, 6, 1, -1, 0, 0, 0, 0⟩ := by rw [newS, if_neg (by omega), if_neg h7]
    have hp : newP t = ⟨2, t.length, 0, 0, 0, 0, t.take 6⟩ := by rw [newP, if_neg (by omega), if_neg h7]
    have hq : recvV (freshR room block gap) ⟨2, t.length, 0, 0, 0, 0, t.take 6⟩ = (failR (freshR room block gap) 182, ⟨4, 0, 0, 2, 0, 0, []⟩, true) := by
      have h1 : (freshR room block gap).room < (t.length : Int) := hr
      simp only [recvV, show ¬ ((2 : Int) = 1) by decide, if_false, if_true, beginR, if_pos h1]
      rfl
    have hst : startL t room block gap [] = ⟨⟨1, t, 6, 1, -1, 0, 0, 0, 0⟩, freshR room block gap, ⟨[⟨2, t.length, 0, 0, 0, 0, t.take 6⟩], []⟩, ⟨[], []⟩, 1⟩ := by rw [startL, hs, hp, fateL_nil, putW_pass]; rfl
    have htk : takeS ⟨1, t, 6, 1, -1, 0, 0, 0, 0⟩ ⟨4, 0, 0, 2, 0, 0, []⟩ = ⟨4, t, 6, 1, -1, 0, 0, 0, 184⟩ := by
      simp [takeS, Snd.takes, Pdu.right]
    have hrun : runL [] 100000 0 (startL t room block gap []) = (⟨⟨4, t, 6, 1, -1, 0, 0, 0, 184⟩, failR (freshR room block gap) 182, ⟨[], []⟩, ⟨[], []⟩, 2⟩, 1) := by
      rw [hst]
      show runL [] (99999 + 1) 0 _ = _
      rw [run_go (by simp [doneL])]
      have ht : tickL [] ⟨⟨1, t, 6, 1, -1, 0, 0, 0, 0⟩, freshR room block gap, ⟨[⟨2, t.length, 0, 0, 0, 0, t.take 6⟩], []⟩, ⟨[], []⟩, 1⟩ = ⟨⟨4, t, 6, 1, -1, 0, 0, 0, 184⟩, failR (freshR room block gap) 182, ⟨[], []⟩, ⟨[], []⟩, 2⟩ := by
        simp [tickL, recvAll, hq, takeAll, fateL_nil, putW_pass, htk, nextS, Snd.goes, tickS, tickV, failR]
      rw [ht]
      show runL [] (99998 + 1) 1 _ = _
      rw [run_done (by simp [doneL, failR])]
    rw [hrun, if_neg h7]
end Go.Proofs.Ytpnhnobnjcknjaa.Pe
