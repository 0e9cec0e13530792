import Derived.Test.YtpnhnobnjcknjaaT1
import Derived.Test.YtpnhnobnjcknjaaE5
namespace Go.Proofs.Ytpnhnobnjcknjaa.Pe
open Go.Pe Go.RowKit
set_option maxRecDepth 20000
set_option maxHeartbeats 4000000
set_option linter.unusedSimpArgs false
set_option linter.unusedVariables false

def b9 : List UInt8 := [1, 2, 3, 4, 5, 6, 7, 8, 9]
theorem parts9 : partsL b9 = [⟨2, 9, 0, 0, 0, 0, [1, 2, 3, 4, 5, 6]⟩, ⟨3, 0, 1, 0, 0, 0, [7, 8, 9]⟩] := by decide +kernel
theorem play9 : playV b9 9 0 0 [] = (⟨3, b9, 9, 2, -1, 0, 0, 0, 0⟩, ⟨3, 9, b9, 2, -1, 0, 0, 0, 9, 0⟩, 2) := by decide +kernel
theorem rows9 : [[PV.lit (Value.int IntKind.u8 1)], [PV.lit (Value.int IntKind.u8 2)], [PV.lit (Value.int IntKind.u8 3)], [PV.lit (Value.int IntKind.u8 4)], [PV.lit (Value.int IntKind.u8 5)], [PV.lit (Value.int IntKind.u8 6)], [PV.lit (Value.int IntKind.u8 7)], [PV.lit (Value.int IntKind.u8 8)], [PV.lit (Value.int IntKind.u8 9)]] = rowsB b9 := rfl
theorem top20head_calls : PureCalls Try.prog 34 [] (PB true) := by
  refine PureCalls.of tabOK mixed Try.func34 rfl rfl (by decide +kernel) (by simp [Try.ntmps34]) ?_
  have cP := partsT_calls b9
  rw [parts9, show partsB b9 = true by decide +kernel] at cP
  have cA := play_at (by decide) play9
  have cX := textT_calls ⟨3, 9, b9, 2, -1, 0, 0, 0, 9, 0⟩
  rw [if_pos rfl] at cX
  have cS := sameB_calls b9 b9
  rw [decide_eq_true rfl] at cS
  simp only [go_sem, Nat.reduceAdd, Nat.reduceSub, Nat.reduceMul, Nat.reduceLT, Nat.reduceLeDiff, Nat.reduceEqDiff, Nat.reduceBEq, Int.reduceToNat, Int.reduceLT, Int.reduceLE, Int.reduceEq, Int.reduceNe, Int.reduceAdd, Int.reduceSub, Int.reduceMul, Int.reduceNeg, ↓reduceIte, reduceCtorEq, Try.ntmps34, Try.results34]
  simp only [rows9]
  (refine CallA.pure (cP) (by simp only [go_sem, Nat.reduceAdd, Nat.reduceSub, Nat.reduceMul, Nat.reduceLT, Nat.reduceLeDiff, Nat.reduceEqDiff, Nat.reduceBEq, Int.reduceToNat, Int.reduceLT, Int.reduceLE, Int.reduceEq, Int.reduceNe, Int.reduceAdd, Int.reduceSub, Int.reduceMul, Int.reduceNeg, ↓reduceIte, reduceCtorEq, pduRows, Pdu.cells] <;> first | rfl | decide) ?_; simp only [go_sem, Nat.reduceAdd, Nat.reduceSub, Nat.reduceMul, Nat.reduceLT, Nat.reduceLeDiff, Nat.reduceEqDiff, Nat.reduceBEq, Int.reduceToNat, Int.reduceLT, Int.reduceLE, Int.reduceEq, Int.reduceNe, Int.reduceAdd, Int.reduceSub, Int.reduceMul, Int.reduceNeg, ↓reduceIte, reduceCtorEq, pduRows, Pdu.cells])
  (refine CallA.pure (cA) (by simp only [go_sem, Nat.reduceAdd, Nat.reduceSub, Nat.reduceMul, Nat.reduceLT, Nat.reduceLeDiff, Nat.reduceEqDiff, Nat.reduceBEq, Int.reduceToNat, Int.reduceLT, Int.reduceLE, Int.reduceEq, Int.reduceNe, Int.reduceAdd, Int.reduceSub, Int.reduceMul, Int.reduceNeg, ↓reduceIte, reduceCtorEq, Snd.pv, Rcv.pv] <;> first | rfl | decide) ?_; simp only [go_sem, Nat.reduceAdd, Nat.reduceSub, Nat.reduceMul, Nat.reduceLT, Nat.reduceLeDiff, Nat.reduceEqDiff, Nat.reduceBEq, Int.reduceToNat, Int.reduceLT, Int.reduceLE, Int.reduceEq, Int.reduceNe, Int.reduceAdd, Int.reduceSub, Int.reduceMul, Int.reduceNeg, ↓reduceIte, reduceCtorEq, Snd.pv, Rcv.pv])
  (refine CallA.pure (cX) (by simp only [go_sem, Nat.reduceAdd, Nat.reduceSub, Nat.reduceMul, Nat.reduceLT, Nat.reduceLeDiff, Nat.reduceEqDiff, Nat.reduceBEq, Int.reduceToNat, Int.reduceLT, Int.reduceLE, Int.reduceEq, Int.reduceNe, Int.reduceAdd, Int.reduceSub, Int.reduceMul, Int.reduceNeg, ↓reduceIte, reduceCtorEq, Snd.pv, Rcv.pv] <;> first | rfl | decide) ?_; simp only [go_sem, Nat.reduceAdd, Nat.reduceSub, Nat.reduceMul, Nat.reduceLT, Nat.reduceLeDiff, Nat.reduceEqDiff, Nat.reduceBEq, Int.reduceToNat, Int.reduceLT, Int.reduceLE, Int.reduceEq, Int.reduceNe, Int.reduceAdd, Int.reduceSub, Int.reduceMul, Int.reduceNeg, ↓reduceIte, reduceCtorEq, Snd.pv, Rcv.pv])
  (refine CallA.pure (cS) (by simp only [go_sem, Nat.reduceAdd, Nat.reduceSub, Nat.reduceMul, Nat.reduceLT, Nat.reduceLeDiff, Nat.reduceEqDiff, Nat.reduceBEq, Int.reduceToNat, Int.reduceLT, Int.reduceLE, Int.reduceEq, Int.reduceNe, Int.reduceAdd, Int.reduceSub, Int.reduceMul, Int.reduceNeg, ↓reduceIte, reduceCtorEq, Try.ntmps34, Try.results34] <;> first | rfl | decide) ?_; simp only [go_sem, Nat.reduceAdd, Nat.reduceSub, Nat.reduceMul, Nat.reduceLT, Nat.reduceLeDiff, Nat.reduceEqDiff, Nat.reduceBEq, Int.reduceToNat, Int.reduceLT, Int.reduceLE, Int.reduceEq, Int.reduceNe, Int.reduceAdd, Int.reduceSub, Int.reduceMul, Int.reduceNeg, ↓reduceIte, reduceCtorEq, Try.ntmps34, Try.results34])
end Go.Proofs.Ytpnhnobnjcknjaa.Pe
