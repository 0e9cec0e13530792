import Derived.Test.YtojmfbmcpjjheaaT4
namespace Go.Proofs.Ytojmfbmcpjjheaa.Pe
open Go.Pe Go.RowKit
set_option maxRecDepth 20000
set_option maxHeartbeats 4000000
set_option linter.unusedSimpArgs false
set_option linter.unusedVariables false

theorem split_k (c : Nat) (r : List UInt8) (h : (splitP c r).right = true) : c < 64 ∧ (splitP c r).k = ((c / 16 + 1 : Nat) : Int) := by
  unfold splitP at h ⊢
  by_cases h0 : c / 16 = 0
  · rw [if_pos h0]; exact ⟨by omega, by show (1 : Int) = _; omega⟩
  rw [if_neg h0] at h ⊢
  by_cases h1 : c / 16 = 1
  · rw [if_pos h1] at h ⊢
    refine ⟨by omega, ?_⟩
    cases r with
    | nil => show (2 : Int) = _; omega
    | cons x r => show (2 : Int) = _; omega
  rw [if_neg h1] at h ⊢
  by_cases h2 : c / 16 = 2
  · rw [if_pos h2]; exact ⟨by omega, by show (3 : Int) = _; omega⟩
  rw [if_neg h2] at h ⊢
  by_cases h3 : c / 16 = 3
  · rw [if_pos h3] at h ⊢
    refine ⟨by omega, ?_⟩
    match r, h with
    | [x, y], _ => show (4 : Int) = _; omega
    | [], h => simp [Pdu.right, Pdu.zer] at h
    | [x], h => simp [Pdu.right, Pdu.zer] at h
    | x :: y :: z :: r, h => simp [Pdu.right, Pdu.zer] at h
  rw [if_neg h3] at h
  simp only [Pdu.right] at h
  rw [if_neg (by omega), if_neg (by omega), if_neg (by omega), if_neg (by omega)] at h
  cases h
theorem div16 (n : Nat) : (n : Int).tdiv 16 = ((n / 16 : Nat) : Int) := rfl
theorem kinds17_calls (b : List UInt8) : PureCalls Try.prog 5 [bytesPV b] (PB true) := by
  refine PureCalls.of tabOK mixed Try.func5 rfl rfl (by decide +kernel) (by simp [Try.ntmps5]) ?_
  simp only [go_sem, Nat.reduceAdd, Nat.reduceSub, Nat.reduceMul, Nat.reduceLT, Nat.reduceLeDiff, Nat.reduceEqDiff, Nat.reduceBEq, Int.reduceToNat, Int.reduceLT, Int.reduceLE, Int.reduceEq, Int.reduceNe, Int.reduceAdd, Int.reduceSub, Int.reduceMul, Int.reduceNeg, ↓reduceIte, reduceCtorEq, Try.ntmps5, Try.results5]
  (refine CallA.pure (head17_calls) (by simp only [go_sem, Nat.reduceAdd, Nat.reduceSub, Nat.reduceMul, Nat.reduceLT, Nat.reduceLeDiff, Nat.reduceEqDiff, Nat.reduceBEq, Int.reduceToNat, Int.reduceLT, Int.reduceLE, Int.reduceEq, Int.reduceNe, Int.reduceAdd, Int.reduceSub, Int.reduceMul, Int.reduceNeg, ↓reduceIte, reduceCtorEq] <;> first | rfl | decide) ?_; simp only [go_sem, Nat.reduceAdd, Nat.reduceSub, Nat.reduceMul, Nat.reduceLT, Nat.reduceLeDiff, Nat.reduceEqDiff, Nat.reduceBEq, Int.reduceToNat, Int.reduceLT, Int.reduceLE, Int.reduceEq, Int.reduceNe, Int.reduceAdd, Int.reduceSub, Int.reduceMul, Int.reduceNeg, ↓reduceIte, reduceCtorEq])
  by_cases h0 : b.length > 100
  · have f0 : decide ((b.length : Int) > 100) = true := by simp; omega
    simp only [go_sem, Nat.reduceAdd, Nat.reduceSub, Nat.reduceMul, Nat.reduceLT, Nat.reduceLeDiff, Nat.reduceEqDiff, Nat.reduceBEq, Int.reduceToNat, Int.reduceLT, Int.reduceLE, Int.reduceEq, Int.reduceNe, Int.reduceAdd, Int.reduceSub, Int.reduceMul, Int.reduceNeg, ↓reduceIte, reduceCtorEq, f0, Try.ntmps5, Try.results5]
  have f0 : decide ((b.length : Int) > 100) = false := by simp; omega
  have cR := readT_calls b (by omega)
  simp only [go_sem, Nat.reduceAdd, Nat.reduceSub, Nat.reduceMul, Nat.reduceLT, Nat.reduceLeDiff, Nat.reduceEqDiff, Nat.reduceBEq, Int.reduceToNat, Int.reduceLT, Int.reduceLE, Int.reduceEq, Int.reduceNe, Int.reduceAdd, Int.reduceSub, Int.reduceMul, Int.reduceNeg, ↓reduceIte, reduceCtorEq, f0]
  cases b with
  | nil =>
    rw [readT] at cR
    (refine CallA.pure (cR) (by simp only [go_sem, Nat.reduceAdd, Nat.reduceSub, Nat.reduceMul, Nat.reduceLT, Nat.reduceLeDiff, Nat.reduceEqDiff, Nat.reduceBEq, Int.reduceToNat, Int.reduceLT, Int.reduceLE, Int.reduceEq, Int.reduceNe, Int.reduceAdd, Int.reduceSub, Int.reduceMul, Int.reduceNeg, ↓reduceIte, reduceCtorEq, Pdu.pv, Pdu.zer, rowsB_nil, Try.ntmps5, Try.results5] <;> first | rfl | decide) ?_; simp only [go_sem, Nat.reduceAdd, Nat.reduceSub, Nat.reduceMul, Nat.reduceLT, Nat.reduceLeDiff, Nat.reduceEqDiff, Nat.reduceBEq, Int.reduceToNat, Int.reduceLT, Int.reduceLE, Int.reduceEq, Int.reduceNe, Int.reduceAdd, Int.reduceSub, Int.reduceMul, Int.reduceNeg, ↓reduceIte, reduceCtorEq, Pdu.pv, Pdu.zer, rowsB_nil, Try.ntmps5, Try.results5])
  | cons c r =>
    have hc : c.toNat < 256 := c.toNat_lt
    have hrow : rowsB (c :: r) = [PV.lit (.int .u8 c.toNat)] :: rowsB r := rfl
    have g0 : decide (((r.length + 1 : Nat) : Int) = 0) = false := by simp; omega
    have w2 : IntKind.wrap .i64 ((c.toNat / 16 : Nat) : Int) = ((c.toNat / 16 : Nat) : Int) := wrapI64 (by omega)
    have w3 : IntKind.wrap .i64 (((c.toNat / 16 : Nat) : Int) + 1) = ((c.toNat / 16 + 1 : Nat) : Int) := by rw [wrapI64 (by omega)]; omega
    simp only [readT] at cR
    have hk := split_k c.toNat r
    generalize splitP c.toNat r = p at cR hk
    cases hR : p.right with
    | false =>
      rw [hR] at cR
      simp only [Bool.false_eq_true, if_false] at cR
      cases g1 : decide ((c.toNat : Int) < 64) with
      | false =>
        (refine CallA.pure (cR) (by simp only [go_sem, Nat.reduceAdd, Nat.reduceSub, Nat.reduceMul, Nat.reduceLT, Nat.reduceLeDiff, Nat.reduceEqDiff, Nat.reduceBEq, Int.reduceToNat, Int.reduceLT, Int.reduceLE, Int.reduceEq, Int.reduceNe, Int.reduceAdd, Int.reduceSub, Int.reduceMul, Int.reduceNeg, ↓reduceIte, reduceCtorEq, Pdu.pv, Pdu.zer, rowsB_nil, g0, g1, hrow, Try.ntmps5, Try.results5] <;> first | rfl | decide) ?_; simp only [go_sem, Nat.reduceAdd, Nat.reduceSub, Nat.reduceMul, Nat.reduceLT, Nat.reduceLeDiff, Nat.reduceEqDiff, Nat.reduceBEq, Int.reduceToNat, Int.reduceLT, Int.reduceLE, Int.reduceEq, Int.reduceNe, Int.reduceAdd, Int.reduceSub, Int.reduceMul, Int.reduceNeg, ↓reduceIte, reduceCtorEq, Pdu.pv, Pdu.zer, rowsB_nil, g0, g1, hrow, Try.ntmps5, Try.results5])
        refine ⟨by omega, endD_intro (by decide +kernel) ?_⟩
        simp only [go_sem, Nat.reduceAdd, Nat.reduceSub, Nat.reduceMul, Nat.reduceLT, Nat.reduceLeDiff, Nat.reduceEqDiff, Nat.reduceBEq, Int.reduceToNat, Int.reduceLT, Int.reduceLE, Int.reduceEq, Int.reduceNe, Int.reduceAdd, Int.reduceSub, Int.reduceMul, Int.reduceNeg, ↓reduceIte, reduceCtorEq, Try.ntmps5, Try.results5]
      | true =>
        (refine CallA.pure (cR) (by simp only [go_sem, Nat.reduceAdd, Nat.reduceSub, Nat.reduceMul, Nat.reduceLT, Nat.reduceLeDiff, Nat.reduceEqDiff, Nat.reduceBEq, Int.reduceToNat, Int.reduceLT, Int.reduceLE, Int.reduceEq, Int.reduceNe, Int.reduceAdd, Int.reduceSub, Int.reduceMul, Int.reduceNeg, ↓reduceIte, reduceCtorEq, Pdu.pv, Pdu.zer, rowsB_nil, g0, g1, hrow, Try.ntmps5, Try.results5] <;> first | rfl | decide) ?_; simp only [go_sem, Nat.reduceAdd, Nat.reduceSub, Nat.reduceMul, Nat.reduceLT, Nat.reduceLeDiff, Nat.reduceEqDiff, Nat.reduceBEq, Int.reduceToNat, Int.reduceLT, Int.reduceLE, Int.reduceEq, Int.reduceNe, Int.reduceAdd, Int.reduceSub, Int.reduceMul, Int.reduceNeg, ↓reduceIte, reduceCtorEq, Pdu.pv, Pdu.zer, rowsB_nil, g0, g1, hrow, Try.ntmps5, Try.results5])
        refine ⟨by omega, endD_intro (by decide +kernel) ?_⟩
        simp only [go_sem, Nat.reduceAdd, Nat.reduceSub, Nat.reduceMul, Nat.reduceLT, Nat.reduceLeDiff, Nat.reduceEqDiff, Nat.reduceBEq, Int.reduceToNat, Int.reduceLT, Int.reduceLE, Int.reduceEq, Int.reduceNe, Int.reduceAdd, Int.reduceSub, Int.reduceMul, Int.reduceNeg, ↓reduceIte, reduceCtorEq, Try.ntmps5, Try.results5]
    | true =>
      obtain ⟨h1, h2⟩ := hk hR
      rw [hR] at cR
      simp only [if_true] at cR
      have w4 : IntKind.wrap .u8 ((c.toNat / 16 : Nat) : Int) = ((c.toNat / 16 : Nat) : Int) := wrapU8 (by omega)
      have g1 : decide ((c.toNat : Int) < 64) = true := by simp; omega
      have g2 : decide (p.k = ((c.toNat / 16 + 1 : Nat) : Int)) = true := by simp [h2]
      (refine CallA.pure (cR) (by simp only [go_sem, Nat.reduceAdd, Nat.reduceSub, Nat.reduceMul, Nat.reduceLT, Nat.reduceLeDiff, Nat.reduceEqDiff, Nat.reduceBEq, Int.reduceToNat, Int.reduceLT, Int.reduceLE, Int.reduceEq, Int.reduceNe, Int.reduceAdd, Int.reduceSub, Int.reduceMul, Int.reduceNeg, ↓reduceIte, reduceCtorEq, Pdu.pv, g0, g1, hrow, div16, w4, w2, w3, g2, Try.ntmps5, Try.results5] <;> first | rfl | decide) ?_; simp only [go_sem, Nat.reduceAdd, Nat.reduceSub, Nat.reduceMul, Nat.reduceLT, Nat.reduceLeDiff, Nat.reduceEqDiff, Nat.reduceBEq, Int.reduceToNat, Int.reduceLT, Int.reduceLE, Int.reduceEq, Int.reduceNe, Int.reduceAdd, Int.reduceSub, Int.reduceMul, Int.reduceNeg, ↓reduceIte, reduceCtorEq, Pdu.pv, g0, g1, hrow, div16, w4, w2, w3, g2, Try.ntmps5, Try.results5])
      refine ⟨by omega, by omega, endD_intro (by decide +kernel) ?_⟩
      simp only [go_sem, Nat.reduceAdd, Nat.reduceSub, Nat.reduceMul, Nat.reduceLT, Nat.reduceLeDiff, Nat.reduceEqDiff, Nat.reduceBEq, Int.reduceToNat, Int.reduceLT, Int.reduceLE, Int.reduceEq, Int.reduceNe, Int.reduceAdd, Int.reduceSub, Int.reduceMul, Int.reduceNeg, ↓reduceIte, reduceCtorEq, div16, w4, w2, w3, g2, Try.ntmps5, Try.results5]
end Go.Proofs.Ytojmfbmcpjjheaa.Pe
