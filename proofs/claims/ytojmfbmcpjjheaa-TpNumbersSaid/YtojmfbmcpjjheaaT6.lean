import Derived.Test.YtojmfbmcpjjheaaT4
namespace Go.Proofs.Ytojmfbmcpjjheaa.Pe
open Go.Pe Go.RowKit
set_option maxRecDepth 20000
set_option maxHeartbeats 4000000
set_option linter.unusedSimpArgs false
set_option linter.unusedVariables false

theorem numbers17_calls (b : List UInt8) : PureCalls Try.prog 4 [bytesPV b] (PB true) := by
  refine PureCalls.of tabOK mixed Try.func4 rfl rfl (by decide +kernel) (by simp [Try.ntmps4]) ?_
  simp only [go_sem, Nat.reduceAdd, Nat.reduceSub, Nat.reduceMul, Nat.reduceLT, Nat.reduceLeDiff, Nat.reduceEqDiff, Nat.reduceBEq, Int.reduceToNat, Int.reduceLT, Int.reduceLE, Int.reduceEq, Int.reduceNe, Int.reduceAdd, Int.reduceSub, Int.reduceMul, Int.reduceNeg, ↓reduceIte, reduceCtorEq, Try.ntmps4, Try.results4]
  (refine CallA.pure (head17_calls) (by simp only [go_sem, Nat.reduceAdd, Nat.reduceSub, Nat.reduceMul, Nat.reduceLT, Nat.reduceLeDiff, Nat.reduceEqDiff, Nat.reduceBEq, Int.reduceToNat, Int.reduceLT, Int.reduceLE, Int.reduceEq, Int.reduceNe, Int.reduceAdd, Int.reduceSub, Int.reduceMul, Int.reduceNeg, ↓reduceIte, reduceCtorEq] <;> first | rfl | decide) ?_; simp only [go_sem, Nat.reduceAdd, Nat.reduceSub, Nat.reduceMul, Nat.reduceLT, Nat.reduceLeDiff, Nat.reduceEqDiff, Nat.reduceBEq, Int.reduceToNat, Int.reduceLT, Int.reduceLE, Int.reduceEq, Int.reduceNe, Int.reduceAdd, Int.reduceSub, Int.reduceMul, Int.reduceNeg, ↓reduceIte, reduceCtorEq])
  by_cases h0 : b.length < 8
  · have f0 : decide ((b.length : Int) < 8) = true := by simp; omega
    simp only [go_sem, Nat.reduceAdd, Nat.reduceSub, Nat.reduceMul, Nat.reduceLT, Nat.reduceLeDiff, Nat.reduceEqDiff, Nat.reduceBEq, Int.reduceToNat, Int.reduceLT, Int.reduceLE, Int.reduceEq, Int.reduceNe, Int.reduceAdd, Int.reduceSub, Int.reduceMul, Int.reduceNeg, ↓reduceIte, reduceCtorEq, f0, Try.ntmps4, Try.results4]
  have f0 : decide ((b.length : Int) < 8) = false := by simp; omega
  by_cases h1 : b.length > 4095
  · have f1 : decide ((b.length : Int) > 4095) = true := by simp; omega
    simp only [go_sem, Nat.reduceAdd, Nat.reduceSub, Nat.reduceMul, Nat.reduceLT, Nat.reduceLeDiff, Nat.reduceEqDiff, Nat.reduceBEq, Int.reduceToNat, Int.reduceLT, Int.reduceLE, Int.reduceEq, Int.reduceNe, Int.reduceAdd, Int.reduceSub, Int.reduceMul, Int.reduceNeg, ↓reduceIte, reduceCtorEq, f0, f1, Try.ntmps4, Try.results4]
  have f1 : decide ((b.length : Int) > 4095) = false := by simp; omega
  have cP := partsT_calls b
  rw [show partsB b = true by rw [partsB, decide_eq_false (by omega)]; rfl] at cP
  have hN : partsN b = 1 + b.length / 7 := by rw [partsN, if_neg (by omega)]
  obtain ⟨hPl, hP0, hPi⟩ := parts_long (t := b) (by omega) (by omega)
  have hrl : (pduRows (partsL b)).length = partsN b := by rw [List.length_map, hPl]
  have hR0 : (pduRows (partsL b)).getD 0 [] = [PI 2, PI b.length, PI 0, PI 0, PI 0, PI 0, bytesPV (b.take 6)] := by
    rw [List.getD_eq_getElem?_getD, List.getElem?_map, hP0]
    rfl
  have g0 : decide ((partsN b : Int) < 2) = false := by simp; omega
  simp only [go_sem, Nat.reduceAdd, Nat.reduceSub, Nat.reduceMul, Nat.reduceLT, Nat.reduceLeDiff, Nat.reduceEqDiff, Nat.reduceBEq, Int.reduceToNat, Int.reduceLT, Int.reduceLE, Int.reduceEq, Int.reduceNe, Int.reduceAdd, Int.reduceSub, Int.reduceMul, Int.reduceNeg, ↓reduceIte, reduceCtorEq, f0, f1]
  (refine CallA.pure (cP) (by simp only [go_sem, Nat.reduceAdd, Nat.reduceSub, Nat.reduceMul, Nat.reduceLT, Nat.reduceLeDiff, Nat.reduceEqDiff, Nat.reduceBEq, Int.reduceToNat, Int.reduceLT, Int.reduceLE, Int.reduceEq, Int.reduceNe, Int.reduceAdd, Int.reduceSub, Int.reduceMul, Int.reduceNeg, ↓reduceIte, reduceCtorEq, hrl, hR0, g0, Int.toNat_zero] <;> first | rfl | decide) ?_; simp only [go_sem, Nat.reduceAdd, Nat.reduceSub, Nat.reduceMul, Nat.reduceLT, Nat.reduceLeDiff, Nat.reduceEqDiff, Nat.reduceBEq, Int.reduceToNat, Int.reduceLT, Int.reduceLE, Int.reduceEq, Int.reduceNe, Int.reduceAdd, Int.reduceSub, Int.reduceMul, Int.reduceNeg, ↓reduceIte, reduceCtorEq, hrl, hR0, g0, Int.toNat_zero])
  refine ⟨by omega, by omega, by omega, by omega, endD_intro (by decide +kernel) ?_⟩
  simp only [go_sem, Nat.reduceAdd, Nat.reduceSub, Nat.reduceMul, Nat.reduceLT, Nat.reduceLeDiff, Nat.reduceEqDiff, Nat.reduceBEq, Int.reduceToNat, Int.reduceLT, Int.reduceLE, Int.reduceEq, Int.reduceNe, Int.reduceAdd, Int.reduceSub, Int.reduceMul, Int.reduceNeg, ↓reduceIte, reduceCtorEq]
  refine wpA_loop (fun m s => ∃ i : Nat, 1 ≤ i ∧ i ≤ partsN b ∧ m = partsN b - i ∧ s = ⟨95, [(0, bytesPV b), (3, PB true), (4, .im 7 (pduRows (partsL b))), (6, PI i)], [], 0, 0⟩) ⟨partsN b - 1, _, ?_, 1, by omega, by omega, rfl, rfl⟩ ?_
  · simp only [go_sem, Nat.reduceAdd, Nat.reduceSub, Nat.reduceMul, Nat.reduceLT, Nat.reduceLeDiff, Nat.reduceEqDiff, Nat.reduceBEq, Int.reduceToNat, Int.reduceLT, Int.reduceLE, Int.reduceEq, Int.reduceNe, Int.reduceAdd, Int.reduceSub, Int.reduceMul, Int.reduceNeg, ↓reduceIte, reduceCtorEq, Int.natCast_one]
  rintro m s ⟨i, hi1, hi2, rfl, rfl⟩
  by_cases hc : i < partsN b
  · have g1 : decide ((i : Int) < (partsN b : Int)) = true := by simp; omega
    have g1' : (i : Int) < (partsN b : Int) := by omega
    have g2 : (0 : Int) ≤ (i : Int) := by omega
    have hRi : (pduRows (partsL b)).getD i [] = [PI 3, PI 0, PI ((i % 16 : Nat) : Int), PI 0, PI 0, PI 0, bytesPV ((b.drop (7 * i - 1)).take 7)] := by
      rw [List.getD_eq_getElem?_getD, List.getElem?_map, hPi i hi1 hc]
      rfl
    have hm : (i : Int).tmod 16 = ((i % 16 : Nat) : Int) := rfl
    have hw1 : IntKind.wrap .i64 ((partsN b : Int) - 1) = ((partsN b - 1 : Nat) : Int) := by rw [wrapI64 (by omega)]; omega
    have hw2 : IntKind.wrap .i64 ((i : Int) + 1) = ((i + 1 : Nat) : Int) := by rw [wrapI64 (by omega)]; omega
    by_cases hl : i < partsN b - 1
    · have g3 : decide ((i : Int) < ((partsN b - 1 : Nat) : Int)) = true := by simp; omega
      have g4 : ((b.drop (7 * i - 1)).take 7).length = 7 := by simp; omega
      have g5 : decide (((7 : Nat) : Int) = 7) = true := by decide
      simp only [go_sem, Nat.reduceAdd, Nat.reduceSub, Nat.reduceMul, Nat.reduceLT, Nat.reduceLeDiff, Nat.reduceEqDiff, Nat.reduceBEq, Int.reduceToNat, Int.reduceLT, Int.reduceLE, Int.reduceEq, Int.reduceNe, Int.reduceAdd, Int.reduceSub, Int.reduceMul, Int.reduceNeg, ↓reduceIte, reduceCtorEq, hrl, g1, g1', g2, Int.toNat_natCast, hRi, hm, hw1, hw2, g3, g4, g5]
      refine ⟨partsN b - (i + 1), _, by omega, ?_, i + 1, by omega, by omega, rfl, rfl⟩
      simp only [go_sem, Nat.reduceAdd, Nat.reduceSub, Nat.reduceMul, Nat.reduceLT, Nat.reduceLeDiff, Nat.reduceEqDiff, Nat.reduceBEq, Int.reduceToNat, Int.reduceLT, Int.reduceLE, Int.reduceEq, Int.reduceNe, Int.reduceAdd, Int.reduceSub, Int.reduceMul, Int.reduceNeg, ↓reduceIte, reduceCtorEq]
    · have g3 : decide ((i : Int) < ((partsN b - 1 : Nat) : Int)) = false := by simp; omega
      simp only [go_sem, Nat.reduceAdd, Nat.reduceSub, Nat.reduceMul, Nat.reduceLT, Nat.reduceLeDiff, Nat.reduceEqDiff, Nat.reduceBEq, Int.reduceToNat, Int.reduceLT, Int.reduceLE, Int.reduceEq, Int.reduceNe, Int.reduceAdd, Int.reduceSub, Int.reduceMul, Int.reduceNeg, ↓reduceIte, reduceCtorEq, hrl, g1, g1', g2, Int.toNat_natCast, hRi, hm, hw1, hw2, g3]
      refine ⟨partsN b - (i + 1), _, by omega, ?_, i + 1, by omega, by omega, rfl, rfl⟩
      simp only [go_sem, Nat.reduceAdd, Nat.reduceSub, Nat.reduceMul, Nat.reduceLT, Nat.reduceLeDiff, Nat.reduceEqDiff, Nat.reduceBEq, Int.reduceToNat, Int.reduceLT, Int.reduceLE, Int.reduceEq, Int.reduceNe, Int.reduceAdd, Int.reduceSub, Int.reduceMul, Int.reduceNeg, ↓reduceIte, reduceCtorEq]
  · have g1 : decide ((i : Int) < (partsN b : Int)) = false := by simp; omega
    simp only [go_sem, Nat.reduceAdd, Nat.reduceSub, Nat.reduceMul, Nat.reduceLT, Nat.reduceLeDiff, Nat.reduceEqDiff, Nat.reduceBEq, Int.reduceToNat, Int.reduceLT, Int.reduceLE, Int.reduceEq, Int.reduceNe, Int.reduceAdd, Int.reduceSub, Int.reduceMul, Int.reduceNeg, ↓reduceIte, reduceCtorEq, hrl, g1, Try.ntmps4, Try.results4]
end Go.Proofs.Ytojmfbmcpjjheaa.Pe
