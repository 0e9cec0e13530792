import Derived.Test.YtefcpcepgflhdaaC3
namespace Go.Proofs.Ytefcpcepgflhdaa.Pe
open Go.Pe Go.RowKit
set_option maxRecDepth 20000
set_option maxHeartbeats 4000000
set_option linter.unusedSimpArgs false
attribute [go_sem] Weak refsIn refsInL Blk.refsIn

theorem flow_calls (k l n : Int) : PureCalls Try.prog 27 [PI k, PI l, PI n] (Pdu.pv ⟨4, 0, 0, k, l, n, []⟩) := by
  refine PureCalls.of tabOK mixed Try.func27 rfl rfl (by decide +kernel) (by simp [Try.ntmps27]) ?_
  simp only [go_sem, Nat.reduceAdd, Nat.reduceSub, Nat.reduceMul, Nat.reduceLT, Nat.reduceLeDiff, Nat.reduceEqDiff, Nat.reduceBEq, Int.reduceToNat, Int.reduceLT, Int.reduceLE, Int.reduceEq, Int.reduceNe, Int.reduceAdd, Int.reduceSub, Int.reduceMul, Int.reduceNeg, ↓reduceIte, reduceCtorEq, Try.ntmps27, Try.results27, Pdu.pv, rowsB_nil]

theorem cut_calls (l : List UInt8) : PureCalls Try.prog 15 [bytesPV l] (bytesPV (l.take 300)) := by
  refine PureCalls.of tabOK mixed Try.func15 rfl rfl (by decide +kernel) (by simp [Try.ntmps15]) ?_
  simp only [go_sem, Nat.reduceAdd, Nat.reduceSub, Nat.reduceMul, Nat.reduceLT, Nat.reduceLeDiff, Nat.reduceEqDiff, Nat.reduceBEq, Int.reduceToNat, Int.reduceLT, Int.reduceLE, Int.reduceEq, Int.reduceNe, Int.reduceAdd, Int.reduceSub, Int.reduceMul, Int.reduceNeg, ↓reduceIte, reduceCtorEq, Try.ntmps15, Try.results15]
  split <;> simp <;> (try omega)
  rw [List.take_of_length_le (by omega)]
  exact ⟨⟨by omega, by omega⟩, rfl⟩
def textB (n : Nat) : List UInt8 := (List.range n).map fun i => UInt8.ofNat (i + 1)
theorem textB_length (n : Nat) : (textB n).length = n := by simp [textB]
theorem textB_succ (i : Nat) (h : i ≤ 100) : rowsB (textB i) ++ [[.lit (.int .u8 (IntKind.wrap .u8 (IntKind.wrap .i64 (i + 1))))]] = rowsB (textB (i + 1)) := by
  rw [show textB (i + 1) = textB i ++ [UInt8.ofNat (i + 1)] by simp [textB, List.range_succ], ← rowsB_append]
  congr 1
  rw [wrapI64 (by omega), wrapU8 (by omega)]
  simp only [rowsB, List.map_cons, List.map_nil, rowB]
  have : (UInt8.ofNat (i + 1)).toNat = i + 1 := by simp; omega
  rw [this]
  rfl
theorem text_calls (n : Nat) (hn : n ≤ 100) : PureCalls Try.prog 28 [PI n] (bytesPV (textB n)) := by
  refine PureCalls.of tabOK mixed Try.func28 rfl rfl (by decide +kernel) (by simp [Try.ntmps28]) ?_
  simp only [go_sem, Nat.reduceAdd, Nat.reduceSub, Nat.reduceMul, Nat.reduceLT, Nat.reduceLeDiff, Nat.reduceEqDiff, Nat.reduceBEq, Int.reduceToNat, Int.reduceLT, Int.reduceLE, Int.reduceEq, Int.reduceNe, Int.reduceAdd, Int.reduceSub, Int.reduceMul, Int.reduceNeg, ↓reduceIte, reduceCtorEq, Try.ntmps28, Try.results28]
  refine wpA_loop (fun m s => ∃ i : Nat, i ≤ n ∧ m = n - i ∧ s = ⟨18, [(0, PI n), (3, .own 0 i), (4, PI i)], [(0, .arr 5 1 (rowsB (textB i)) i false)], 5, 0⟩) ⟨n, _, ?_, 0, by omega, by omega, rfl⟩ ?_
  · simp only [go_sem, Nat.reduceAdd, Nat.reduceSub, Nat.reduceMul, Nat.reduceLT, Nat.reduceLeDiff, Nat.reduceEqDiff, Nat.reduceBEq, Int.reduceToNat, Int.reduceLT, Int.reduceLE, Int.reduceEq, Int.reduceNe, Int.reduceAdd, Int.reduceSub, Int.reduceMul, Int.reduceNeg, ↓reduceIte, reduceCtorEq, Int.natCast_zero]
    rfl
  rintro m s ⟨i, hi, rfl, rfl⟩
  simp only [go_sem, Nat.reduceAdd, Nat.reduceSub, Nat.reduceMul, Nat.reduceLT, Nat.reduceLeDiff, Nat.reduceEqDiff, Nat.reduceBEq, Int.reduceToNat, Int.reduceLT, Int.reduceLE, Int.reduceEq, Int.reduceNe, Int.reduceAdd, Int.reduceSub, Int.reduceMul, Int.reduceNeg, ↓reduceIte, reduceCtorEq]
  refine condK_split (fun h => ?_) (fun h => ?_)
  · simp only [go_sem, Nat.reduceAdd, Nat.reduceSub, Nat.reduceMul, Nat.reduceLT, Nat.reduceLeDiff, Nat.reduceEqDiff, Nat.reduceBEq, Int.reduceToNat, Int.reduceLT, Int.reduceLE, Int.reduceEq, Int.reduceNe, Int.reduceAdd, Int.reduceSub, Int.reduceMul, Int.reduceNeg, ↓reduceIte, reduceCtorEq, h, textB_succ i (by omega)]
    have hlt : i < n := by simpa using h
    rw [textB_length]
    refine ⟨⟨by omega, by omega⟩, n - (i + 1), _, by omega, ?_, i + 1, by omega, rfl, rfl⟩
    simp only [go_sem, Nat.reduceAdd, Nat.reduceSub, Nat.reduceMul, Nat.reduceLT, Nat.reduceLeDiff, Nat.reduceEqDiff, Nat.reduceBEq, Int.reduceToNat, Int.reduceLT, Int.reduceLE, Int.reduceEq, Int.reduceNe, Int.reduceAdd, Int.reduceSub, Int.reduceMul, Int.reduceNeg, ↓reduceIte, reduceCtorEq]
    rw [wrapI64 (by omega)]
    rfl
  · simp only [go_sem, Nat.reduceAdd, Nat.reduceSub, Nat.reduceMul, Nat.reduceLT, Nat.reduceLeDiff, Nat.reduceEqDiff, Nat.reduceBEq, Int.reduceToNat, Int.reduceLT, Int.reduceLE, Int.reduceEq, Int.reduceNe, Int.reduceAdd, Int.reduceSub, Int.reduceMul, Int.reduceNeg, ↓reduceIte, reduceCtorEq, h, Try.ntmps28, Try.results28]
    have hge : n ≤ i := by simpa using h
    rw [show n = i by omega]
end Go.Proofs.Ytefcpcepgflhdaa.Pe
