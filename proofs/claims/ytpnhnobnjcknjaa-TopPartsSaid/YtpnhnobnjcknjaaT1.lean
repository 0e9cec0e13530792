import Derived.Test.YtpnhnobnjcknjaaD1a
import Derived.Test.YtpnhnobnjcknjaaCPb
import Derived.Test.YtpnhnobnjcknjaaPeZ
namespace Go.Proofs.Ytpnhnobnjcknjaa.Pe
open Go.Pe Go.RowKit
set_option maxRecDepth 20000
set_option maxHeartbeats 4000000
set_option linter.unusedSimpArgs false
set_option linter.unusedVariables false

theorem partsT_calls (b : List UInt8) : PureCalls Try.prog 39 [bytesPV b] (.tup [.im 7 (pduRows (partsL b)), PB (partsB b)]) := by
  refine PureCalls.ofF tabOK mixed Try.func39 rfl rfl (by decide +kernel) (by simp [Try.ntmps39]) ?_
  simp only [go_sem, Nat.reduceAdd, Nat.reduceSub, Nat.reduceMul, Nat.reduceLT, Nat.reduceLeDiff, Nat.reduceEqDiff, Nat.reduceBEq, Int.reduceToNat, Int.reduceLT, Int.reduceLE, Int.reduceEq, Int.reduceNe, Int.reduceAdd, Int.reduceSub, Int.reduceMul, Int.reduceNeg, ↓reduceIte, reduceCtorEq, Try.ntmps39, Try.results39]
  refine CallA.same (in_calls _ _ _) (by simp only [go_sem, Nat.reduceAdd, Nat.reduceSub, Nat.reduceMul, Nat.reduceLT, Nat.reduceLeDiff, Nat.reduceEqDiff, Nat.reduceBEq, Int.reduceToNat, Int.reduceLT, Int.reduceLE, Int.reduceEq, Int.reduceNe, Int.reduceAdd, Int.reduceSub, Int.reduceMul, Int.reduceNeg, ↓reduceIte, reduceCtorEq]) ?_
  by_cases h0 : b.length < 1 ∨ 4095 < b.length
  · have f0 : (decide (1 ≤ (b.length : Int)) && decide ((b.length : Int) ≤ 4095)) = false := by simp only [Bool.and_eq_false_iff, decide_eq_false_iff_not]; omega
    have hp : partsL b = [] := by rw [partsL, if_pos (by omega)]
    have hb : partsB b = false := by rw [partsB, decide_eq_true (by omega)]; rfl
    rw [hp, hb]
    simp only [go_sem, Nat.reduceAdd, Nat.reduceSub, Nat.reduceMul, Nat.reduceLT, Nat.reduceLeDiff, Nat.reduceEqDiff, Nat.reduceBEq, Int.reduceToNat, Int.reduceLT, Int.reduceLE, Int.reduceEq, Int.reduceNe, Int.reduceAdd, Int.reduceSub, Int.reduceMul, Int.reduceNeg, ↓reduceIte, reduceCtorEq, Try.ntmps39, Try.results39, f0, pduRows]
  have f0 : (decide (1 ≤ (b.length : Int)) && decide ((b.length : Int) ≤ 4095)) = true := by simp only [Bool.and_eq_true, decide_eq_true_eq]; omega
  have hB : partsB b = true := by rw [partsB, decide_eq_false (by omega)]; rfl
  rw [hB]
  simp only [go_sem, Nat.reduceAdd, Nat.reduceSub, Nat.reduceMul, Nat.reduceLT, Nat.reduceLeDiff, Nat.reduceEqDiff, Nat.reduceBEq, Int.reduceToNat, Int.reduceLT, Int.reduceLE, Int.reduceEq, Int.reduceNe, Int.reduceAdd, Int.reduceSub, Int.reduceMul, Int.reduceNeg, ↓reduceIte, reduceCtorEq, f0]
  by_cases h7 : b.length ≤ 7
  · have f1 : decide ((b.length : Int) ≤ 7) = true := by simp; omega
    have hp : partsL b = [⟨1, b.length, 0, 0, 0, 0, b⟩] := by rw [partsL, if_neg (by omega), if_pos h7]
    rw [hp]
    simp only [go_sem, Nat.reduceAdd, Nat.reduceSub, Nat.reduceMul, Nat.reduceLT, Nat.reduceLeDiff, Nat.reduceEqDiff, Nat.reduceBEq, Int.reduceToNat, Int.reduceLT, Int.reduceLE, Int.reduceEq, Int.reduceNe, Int.reduceAdd, Int.reduceSub, Int.reduceMul, Int.reduceNeg, ↓reduceIte, reduceCtorEq, f1]
    refine CallA.same (clone_calls b (by omega)) (by simp only [go_sem, Nat.reduceAdd, Nat.reduceSub, Nat.reduceMul, Nat.reduceLT, Nat.reduceLeDiff, Nat.reduceEqDiff, Nat.reduceBEq, Int.reduceToNat, Int.reduceLT, Int.reduceLE, Int.reduceEq, Int.reduceNe, Int.reduceAdd, Int.reduceSub, Int.reduceMul, Int.reduceNeg, ↓reduceIte, reduceCtorEq]) ?_
    simp only [go_sem, Nat.reduceAdd, Nat.reduceSub, Nat.reduceMul, Nat.reduceLT, Nat.reduceLeDiff, Nat.reduceEqDiff, Nat.reduceBEq, Int.reduceToNat, Int.reduceLT, Int.reduceLE, Int.reduceEq, Int.reduceNe, Int.reduceAdd, Int.reduceSub, Int.reduceMul, Int.reduceNeg, ↓reduceIte, reduceCtorEq, Try.ntmps39, Try.results39, pduRows, Pdu.cells]
  have f1 : decide ((b.length : Int) ≤ 7) = false := by simp; omega
  simp only [go_sem, Nat.reduceAdd, Nat.reduceSub, Nat.reduceMul, Nat.reduceLT, Nat.reduceLeDiff, Nat.reduceEqDiff, Nat.reduceBEq, Int.reduceToNat, Int.reduceLT, Int.reduceLE, Int.reduceEq, Int.reduceNe, Int.reduceAdd, Int.reduceSub, Int.reduceMul, Int.reduceNeg, ↓reduceIte, reduceCtorEq, f1]
  refine ⟨by omega, ?_⟩
  refine CallA.same (clone_calls (b.take 6) (by simp; omega)) (by simp only [go_sem, Nat.reduceAdd, Nat.reduceSub, Nat.reduceMul, Nat.reduceLT, Nat.reduceLeDiff, Nat.reduceEqDiff, Nat.reduceBEq, Int.reduceToNat, Int.reduceLT, Int.reduceLE, Int.reduceEq, Int.reduceNe, Int.reduceAdd, Int.reduceSub, Int.reduceMul, Int.reduceNeg, ↓reduceIte, reduceCtorEq]) ?_
  simp only [go_sem, Nat.reduceAdd, Nat.reduceSub, Nat.reduceMul, Nat.reduceLT, Nat.reduceLeDiff, Nat.reduceEqDiff, Nat.reduceBEq, Int.reduceToNat, Int.reduceLT, Int.reduceLE, Int.reduceEq, Int.reduceNe, Int.reduceAdd, Int.reduceSub, Int.reduceMul, Int.reduceNeg, ↓reduceIte, reduceCtorEq]
  refine ⟨by omega, ?_⟩
  refine CallA.into tabOK mixed Try.func62 rfl rfl (by decide +kernel) (by simp [Try.ntmps62]) ?_
  simp only [go_sem, Nat.reduceAdd, Nat.reduceSub, Nat.reduceMul, Nat.reduceLT, Nat.reduceLeDiff, Nat.reduceEqDiff, Nat.reduceBEq, Int.reduceToNat, Int.reduceLT, Int.reduceLE, Int.reduceEq, Int.reduceNe, Int.reduceAdd, Int.reduceSub, Int.reduceMul, Int.reduceNeg, ↓reduceIte, reduceCtorEq, Try.ntmps62, Try.results62, Int.toNat_natCast, List.take_length]
  have hN : partsN b = 1 + b.length / 7 := by rw [partsN, if_neg h7]
  obtain ⟨hPl, hP0, hPi⟩ := parts_long (t := b) (by omega) (by omega)
  have hD : (b.drop 6).length = b.length - 6 := by simp
  have hwD : IntKind.wrap .i64 ((b.length - 6 : Nat) : Int) = ((b.length - 6 : Nat) : Int) := wrapI64 (by omega)
  refine ⟨_, _, _, [.ptr 3 0, .ptr 4 0], _, ⟨by simp only [go_sem, Nat.reduceAdd, Nat.reduceSub, Nat.reduceMul, Nat.reduceLT, Nat.reduceLeDiff, Nat.reduceEqDiff, Nat.reduceBEq, Int.reduceToNat, Int.reduceLT, Int.reduceLE, Int.reduceEq, Int.reduceNe, Int.reduceAdd, Int.reduceSub, Int.reduceMul, Int.reduceNeg, ↓reduceIte, reduceCtorEq], rfl, by simp only [go_sem, Nat.reduceAdd, Nat.reduceSub, Nat.reduceMul, Nat.reduceLT, Nat.reduceLeDiff, Nat.reduceEqDiff, Nat.reduceBEq, Int.reduceToNat, Int.reduceLT, Int.reduceLE, Int.reduceEq, Int.reduceNe, Int.reduceAdd, Int.reduceSub, Int.reduceMul, Int.reduceNeg, ↓reduceIte, reduceCtorEq], Try.func79, rfl, rfl, by decide +kernel, by decide +kernel, by decide +kernel, by simp only [go_sem, Nat.reduceAdd, Nat.reduceSub, Nat.reduceMul, Nat.reduceLT, Nat.reduceLeDiff, Nat.reduceEqDiff, Nat.reduceBEq, Int.reduceToNat, Int.reduceLT, Int.reduceLE, Int.reduceEq, Int.reduceNe, Int.reduceAdd, Int.reduceSub, Int.reduceMul, Int.reduceNeg, ↓reduceIte, reduceCtorEq, Try.ntmps79, Try.results79], ?_, ?_, ?_⟩⟩
  · simp only [go_sem, Nat.reduceAdd, Nat.reduceSub, Nat.reduceMul, Nat.reduceLT, Nat.reduceLeDiff, Nat.reduceEqDiff, Nat.reduceBEq, Int.reduceToNat, Int.reduceLT, Int.reduceLE, Int.reduceEq, Int.reduceNe, Int.reduceAdd, Int.reduceSub, Int.reduceMul, Int.reduceNeg, ↓reduceIte, reduceCtorEq]
  · simp only [go_sem, Nat.reduceAdd, Nat.reduceSub, Nat.reduceMul, Nat.reduceLT, Nat.reduceLeDiff, Nat.reduceEqDiff, Nat.reduceBEq, Int.reduceToNat, Int.reduceLT, Int.reduceLE, Int.reduceEq, Int.reduceNe, Int.reduceAdd, Int.reduceSub, Int.reduceMul, Int.reduceNeg, ↓reduceIte, reduceCtorEq]
  intro D l R0
  simp only [go_sem, Nat.reduceAdd, Nat.reduceSub, Nat.reduceMul, Nat.reduceLT, Nat.reduceLeDiff, Nat.reduceEqDiff, Nat.reduceBEq, Int.reduceToNat, Int.reduceLT, Int.reduceLE, Int.reduceEq, Int.reduceNe, Int.reduceAdd, Int.reduceSub, Int.reduceMul, Int.reduceNeg, ↓reduceIte, reduceCtorEq, rangeHp, Try.ntmps79, Try.results79]
  refine wpY_loop (fun m s => ∃ k v : Nat, 7 * k ≤ b.length - 6 + 6 ∧ k + m = partsN b - 1 ∧ s = ⟨31, [(0, .lit (.func (.yield l) #[] #[])), (1, .ptr 3 0), (2, .ptr 4 0), (4, PI ((7 * k : Nat) : Int))],
    [(6, .obj l (.loop (recOf R0 none))), (5, .obj D (.deferred (some []))), (4, .box 3 [PI 7]), (3, .box 26 [bytesPV (b.drop 6)]), (1, .box 52 [.own 0 v]), (0, .arr 33 7 (pduRows ((partsL b).take (k + 1))) v false)], 7, 7⟩) ⟨partsN b - 1, _, ?_, 0, 0, by omega, by omega, rfl⟩ ?_
  · have hR0 : pduRows ((partsL b).take (0 + 1)) = [[PI 2, PI b.length, PI 0, PI 0, PI 0, PI 0, bytesPV (b.take 6)]] := by
      rw [List.take_add_one, hP0]
      rfl
    simp only [go_sem, Nat.reduceAdd, Nat.reduceSub, Nat.reduceMul, Nat.reduceLT, Nat.reduceLeDiff, Nat.reduceEqDiff, Nat.reduceBEq, Int.reduceToNat, Int.reduceLT, Int.reduceLE, Int.reduceEq, Int.reduceNe, Int.reduceAdd, Int.reduceSub, Int.reduceMul, Int.reduceNeg, ↓reduceIte, reduceCtorEq, Nat.mul_zero, Int.natCast_zero, hR0]
  rintro m s ⟨k, v, hk1, hk2, rfl⟩
  by_cases hc : 7 * k < b.length - 6
  · have g1 : decide (((7 * k : Nat) : Int) < ((b.length - 6 : Nat) : Int)) = true := by simp; omega
    simp only [go_sem, Nat.reduceAdd, Nat.reduceSub, Nat.reduceMul, Nat.reduceLT, Nat.reduceLeDiff, Nat.reduceEqDiff, Nat.reduceBEq, Int.reduceToNat, Int.reduceLT, Int.reduceLE, Int.reduceEq, Int.reduceNe, Int.reduceAdd, Int.reduceSub, Int.reduceMul, Int.reduceNeg, ↓reduceIte, reduceCtorEq, g1, hD, hwD]
    refine ⟨⟨by omega, by omega, by omega⟩, endD_intro (by decide +kernel) ?_⟩
    obtain ⟨E, hE⟩ : ∃ E, min 7 (b.length - 6 - 7 * k) = E := ⟨_, rfl⟩
    have hl : ((List.drop (7 * k) (List.take (b.length - 6) (List.drop 6 b))).length) = b.length - 6 - 7 * k := by simp
    have hmin : (if ((b.length - 6 - 7 * k : Nat) : Int) < 7 then ((b.length - 6 - 7 * k : Nat) : Int) else 7) = (E : Int) := by split <;> omega
    have hw : IntKind.wrap .i64 (((7 * k : Nat) : Int) + (E : Int)) = ((7 * k + E : Nat) : Int) := by rw [wrapI64 (by omega)]; omega
    have hpc : ((b.drop 6).take (7 * k + E)).drop (7 * k) = (b.drop (7 * (k + 1) - 1)).take 7 := by
      rw [List.drop_take, List.drop_drop, show 6 + 7 * k = 7 * (k + 1) - 1 by omega, show 7 * k + E - 7 * k = E by omega, ← hE]
      by_cases h : 7 ≤ b.length - 6 - 7 * k
      · rw [Nat.min_eq_left h]
      · rw [List.take_of_length_le (by simp; omega), List.take_of_length_le (by simp; omega)]
    simp only [go_sem, Nat.reduceAdd, Nat.reduceSub, Nat.reduceMul, Nat.reduceLT, Nat.reduceLeDiff, Nat.reduceEqDiff, Nat.reduceBEq, Int.reduceToNat, Int.reduceLT, Int.reduceLE, Int.reduceEq, Int.reduceNe, Int.reduceAdd, Int.reduceSub, Int.reduceMul, Int.reduceNeg, ↓reduceIte, reduceCtorEq, Int.toNat_natCast, hl, hmin, hw, hpc]
    have hrl : (pduRows ((partsL b).take (k + 1))).length = k + 1 := by rw [List.length_map, List.length_take, hPl]; omega
    have htm : ((k + 1 : Nat) : Int).tmod 16 = (((k + 1) % 16 : Nat) : Int) := rfl
    have hnew : pduRows ((partsL b).take (k + 1)) ++ [[PI 3, PI 0, PI (((k + 1) % 16 : Nat) : Int), PI 0, PI 0, PI 0, bytesPV ((b.drop (7 * (k + 1) - 1)).take 7)]] = pduRows ((partsL b).take (k + 1 + 1)) := by
      rw [List.take_add_one (i := k + 1), hPi (k + 1) (by omega) (by omega)]
      simp [pduRows]
    refine ⟨⟨by omega, by omega, by omega, by omega, by omega⟩, rfl, rfl, _, rfl, ?_⟩
    simp only [go_sem, Nat.reduceAdd, Nat.reduceSub, Nat.reduceMul, Nat.reduceLT, Nat.reduceLeDiff, Nat.reduceEqDiff, Nat.reduceBEq, Int.reduceToNat, Int.reduceLT, Int.reduceLE, Int.reduceEq, Int.reduceNe, Int.reduceAdd, Int.reduceSub, Int.reduceMul, Int.reduceNeg, ↓reduceIte, reduceCtorEq, hrl, htm]
    refine callD_same (clone_calls ((b.drop (7 * (k + 1) - 1)).take 7) (by simp; omega)) (by simp only [go_sem, Nat.reduceAdd, Nat.reduceSub, Nat.reduceMul, Nat.reduceLT, Nat.reduceLeDiff, Nat.reduceEqDiff, Nat.reduceBEq, Int.reduceToNat, Int.reduceLT, Int.reduceLE, Int.reduceEq, Int.reduceNe, Int.reduceAdd, Int.reduceSub, Int.reduceMul, Int.reduceNeg, ↓reduceIte, reduceCtorEq]) ?_
    simp only [go_sem, Nat.reduceAdd, Nat.reduceSub, Nat.reduceMul, Nat.reduceLT, Nat.reduceLeDiff, Nat.reduceEqDiff, Nat.reduceBEq, Int.reduceToNat, Int.reduceLT, Int.reduceLE, Int.reduceEq, Int.reduceNe, Int.reduceAdd, Int.reduceSub, Int.reduceMul, Int.reduceNeg, ↓reduceIte, reduceCtorEq, hrl]
    refine ⟨⟨by omega, by omega⟩, endD_intro (by decide +kernel) ?_⟩
    have hw7 : IntKind.wrap .i64 (((7 * k : Nat) : Int) + 7) = ((7 * (k + 1) : Nat) : Int) := by rw [wrapI64 (by omega)]; omega
    simp only [go_sem, Nat.reduceAdd, Nat.reduceSub, Nat.reduceMul, Nat.reduceLT, Nat.reduceLeDiff, Nat.reduceEqDiff, Nat.reduceBEq, Int.reduceToNat, Int.reduceLT, Int.reduceLE, Int.reduceEq, Int.reduceNe, Int.reduceAdd, Int.reduceSub, Int.reduceMul, Int.reduceNeg, ↓reduceIte, reduceCtorEq, hw7]
    refine ⟨m - 1, _, by omega, ?_, k + 1, v + 1, by omega, by omega, rfl⟩
    simp only [go_sem, Nat.reduceAdd, Nat.reduceSub, Nat.reduceMul, Nat.reduceLT, Nat.reduceLeDiff, Nat.reduceEqDiff, Nat.reduceBEq, Int.reduceToNat, Int.reduceLT, Int.reduceLE, Int.reduceEq, Int.reduceNe, Int.reduceAdd, Int.reduceSub, Int.reduceMul, Int.reduceNeg, ↓reduceIte, reduceCtorEq, hnew]
  · have g1 : decide (((7 * k : Nat) : Int) < ((b.length - 6 : Nat) : Int)) = false := by simp; omega
    simp only [go_sem, Nat.reduceAdd, Nat.reduceSub, Nat.reduceMul, Nat.reduceLT, Nat.reduceLeDiff, Nat.reduceEqDiff, Nat.reduceBEq, Int.reduceToNat, Int.reduceLT, Int.reduceLE, Int.reduceEq, Int.reduceNe, Int.reduceAdd, Int.reduceSub, Int.reduceMul, Int.reduceNeg, ↓reduceIte, reduceCtorEq, g1, hD, hwD, Try.ntmps79, Try.results79]
    have hk : k + 1 = (partsL b).length := by rw [hPl]; omega
    refine ⟨none, rfl, ?_⟩
    simp only [go_sem, Nat.reduceAdd, Nat.reduceSub, Nat.reduceMul, Nat.reduceLT, Nat.reduceLeDiff, Nat.reduceEqDiff, Nat.reduceBEq, Int.reduceToNat, Int.reduceLT, Int.reduceLE, Int.reduceEq, Int.reduceNe, Int.reduceAdd, Int.reduceSub, Int.reduceMul, Int.reduceNeg, ↓reduceIte, reduceCtorEq, Try.ntmps39, Try.results39, hk, List.take_length]
end Go.Proofs.Ytpnhnobnjcknjaa.Pe
