import Derived.Test.YtcdmhigmgpflbaaDL7
namespace Go.Proofs.Ytcdmhigmgpflbaa.Pe
open Go.Pe Go.RowKit
set_option maxRecDepth 20000
set_option maxHeartbeats 4000000
set_option linter.unusedSimpArgs false
set_option linter.unusedVariables false
/-- The question of an op, of a server. -/
def questV (s : Srv) (o : Op22) : List UInt8 := if o.is = true ∧ s.seed ≥ 0 then 0x27 :: 2 :: fourV (keyV s.seed s.sec) else o.q.take (min o.q.length 80)
def fewV (n : Int) : Int := if n < 0 then -1 else bitsA .and .i64 n 255
theorem few_calls (n : Int) : PureCalls Try.prog 39 [PI n] (PI (fewV n)) := by
  refine PureCalls.of tabOK mixed Try.func39 rfl rfl (by decide +kernel) (by simp [Try.ntmps39]) ?_
  unfold fewV
  simp only [go_sem, Nat.reduceAdd, Nat.reduceSub, Nat.reduceMul, Nat.reduceLT, Nat.reduceLeDiff, Nat.reduceEqDiff, Nat.reduceBEq, Int.reduceToNat, Int.reduceLT, Int.reduceLE, Int.reduceEq, Int.reduceNe, Int.reduceAdd, Int.reduceSub, Int.reduceMul, Int.reduceNeg, ↓reduceIte, reduceCtorEq, Try.ntmps39, Try.results39]
  by_cases h : n < 0
  · have f : decide (n < 0) = true := decide_eq_true h
    simp only [go_sem, Nat.reduceAdd, Nat.reduceSub, Nat.reduceMul, Nat.reduceLT, Nat.reduceLeDiff, Nat.reduceEqDiff, Nat.reduceBEq, Int.reduceToNat, Int.reduceLT, Int.reduceLE, Int.reduceEq, Int.reduceNe, Int.reduceAdd, Int.reduceSub, Int.reduceMul, Int.reduceNeg, ↓reduceIte, reduceCtorEq, f, if_pos h, Try.ntmps39, Try.results39]
  · have f : decide (n < 0) = false := decide_eq_false h
    simp only [go_sem, Nat.reduceAdd, Nat.reduceSub, Nat.reduceMul, Nat.reduceLT, Nat.reduceLeDiff, Nat.reduceEqDiff, Nat.reduceBEq, Int.reduceToNat, Int.reduceLT, Int.reduceLE, Int.reduceEq, Int.reduceNe, Int.reduceAdd, Int.reduceSub, Int.reduceMul, Int.reduceNeg, ↓reduceIte, reduceCtorEq, f, if_neg h, Try.ntmps39, Try.results39]
theorem quest_calls (s : Srv) (o : Op22) : PureCalls Try.prog 37 [s.pv, .agg o.row] (bytesPV (questV s o)) := by
  refine PureCalls.of tabOK mixed Try.func37 rfl rfl (by decide +kernel) (by simp [Try.ntmps37]) ?_
  obtain ⟨n, q, is⟩ := o
  have lq := rowsB_length q
  have hmin : (if (80 : Int) < (q.length : Int) then 80 else (q.length : Int)) = ((min q.length 80 : Nat) : Int) := by split <;> omega
  have hmin0 : (0 : Int) ≤ ((min q.length 80 : Nat) : Int) := by omega
  have hmin1 : ((min q.length 80 : Nat) : Int) ≤ (q.length : Int) := by omega
  have plain : ¬ (is = true ∧ s.seed ≥ 0) → questV s ⟨n, q, is⟩ = q.take (min q.length 80) := fun h => by rw [questV, if_neg h]
  cases hi : is with
  | false =>
    rw [hi] at plain
    rw [plain (by simp)]
    simp only [go_sem, Nat.reduceAdd, Nat.reduceSub, Nat.reduceMul, Nat.reduceLT, Nat.reduceLeDiff, Nat.reduceEqDiff, Nat.reduceBEq, Int.reduceToNat, Int.reduceLT, Int.reduceLE, Int.reduceEq, Int.reduceNe, Int.reduceAdd, Int.reduceSub, Int.reduceMul, Int.reduceNeg, ↓reduceIte, reduceCtorEq, Try.ntmps37, Try.results37, Srv.pv, Srv.cells, Op22.row, lq, hmin, hmin0, hmin1, Int.toNat_natCast]
    simp only [List.length_take]; omega
  | true =>
    rw [hi] at plain
    cases hs : decide (s.seed ≥ 0) with
    | false =>
      rw [plain (by simp; simpa using hs)]
      simp only [go_sem, Nat.reduceAdd, Nat.reduceSub, Nat.reduceMul, Nat.reduceLT, Nat.reduceLeDiff, Nat.reduceEqDiff, Nat.reduceBEq, Int.reduceToNat, Int.reduceLT, Int.reduceLE, Int.reduceEq, Int.reduceNe, Int.reduceAdd, Int.reduceSub, Int.reduceMul, Int.reduceNeg, ↓reduceIte, reduceCtorEq, Try.ntmps37, Try.results37, Srv.pv, Srv.cells, Op22.row, lq, hmin, hmin0, hmin1, Int.toNat_natCast, hs]
      simp only [List.length_take]; omega
    | true =>
      have cK := keyR22_calls s.seed s.sec
      have w := keyV_wide s.seed s.sec
      rw [questV, if_pos ⟨rfl, of_decide_eq_true hs⟩]
      generalize keyV s.seed s.sec = k at cK w
      have cF := fourR_calls k w
      simp only [go_sem, Nat.reduceAdd, Nat.reduceSub, Nat.reduceMul, Nat.reduceLT, Nat.reduceLeDiff, Nat.reduceEqDiff, Nat.reduceBEq, Int.reduceToNat, Int.reduceLT, Int.reduceLE, Int.reduceEq, Int.reduceNe, Int.reduceAdd, Int.reduceSub, Int.reduceMul, Int.reduceNeg, ↓reduceIte, reduceCtorEq, Try.ntmps37, Try.results37, Srv.pv, Srv.cells, Op22.row, hs]
      (refine CallA.pure (cK) (by simp only [go_sem, Nat.reduceAdd, Nat.reduceSub, Nat.reduceMul, Nat.reduceLT, Nat.reduceLeDiff, Nat.reduceEqDiff, Nat.reduceBEq, Int.reduceToNat, Int.reduceLT, Int.reduceLE, Int.reduceEq, Int.reduceNe, Int.reduceAdd, Int.reduceSub, Int.reduceMul, Int.reduceNeg, ↓reduceIte, reduceCtorEq] <;> first | rfl | decide) ?_; simp only [go_sem, Nat.reduceAdd, Nat.reduceSub, Nat.reduceMul, Nat.reduceLT, Nat.reduceLeDiff, Nat.reduceEqDiff, Nat.reduceBEq, Int.reduceToNat, Int.reduceLT, Int.reduceLE, Int.reduceEq, Int.reduceNe, Int.reduceAdd, Int.reduceSub, Int.reduceMul, Int.reduceNeg, ↓reduceIte, reduceCtorEq])
      (refine CallA.pure (cF) (by simp only [go_sem, Nat.reduceAdd, Nat.reduceSub, Nat.reduceMul, Nat.reduceLT, Nat.reduceLeDiff, Nat.reduceEqDiff, Nat.reduceBEq, Int.reduceToNat, Int.reduceLT, Int.reduceLE, Int.reduceEq, Int.reduceNe, Int.reduceAdd, Int.reduceSub, Int.reduceMul, Int.reduceNeg, ↓reduceIte, reduceCtorEq] <;> first | rfl | decide) ?_; simp only [go_sem, Nat.reduceAdd, Nat.reduceSub, Nat.reduceMul, Nat.reduceLT, Nat.reduceLeDiff, Nat.reduceEqDiff, Nat.reduceBEq, Int.reduceToNat, Int.reduceLT, Int.reduceLE, Int.reduceEq, Int.reduceNe, Int.reduceAdd, Int.reduceSub, Int.reduceMul, Int.reduceNeg, ↓reduceIte, reduceCtorEq])
      refine ⟨by simp only [fourV_len]; omega, ?_⟩
      simp only [go_sem, Nat.reduceAdd, Nat.reduceSub, Nat.reduceMul, Nat.reduceLT, Nat.reduceLeDiff, Nat.reduceEqDiff, Nat.reduceBEq, Int.reduceToNat, Int.reduceLT, Int.reduceLE, Int.reduceEq, Int.reduceNe, Int.reduceAdd, Int.reduceSub, Int.reduceMul, Int.reduceNeg, ↓reduceIte, reduceCtorEq, Try.ntmps37, Try.results37, rowsB, List.map_cons, rowB]
      exact ⟨rfl, rfl⟩
theorem quest_le (s : Srv) (o : Op22) : (questV s o).length ≤ 80 := by
  unfold questV
  split
  · simp [fourV_len]
  · simp only [List.length_take]; omega
end Go.Proofs.Ytcdmhigmgpflbaa.Pe
