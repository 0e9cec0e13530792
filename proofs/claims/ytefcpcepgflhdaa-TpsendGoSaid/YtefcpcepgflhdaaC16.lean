import Derived.Test.YtefcpcepgflhdaaC15
namespace Go.Proofs.Ytefcpcepgflhdaa.Pe
open Go.Pe Go.RowKit
set_option maxRecDepth 20000
set_option maxHeartbeats 4000000
set_option linter.unusedSimpArgs false
set_option linter.unusedVariables false

theorem pduRows_getD {l : List Pdu} {i : Nat} (h : i < l.length) : (pduRows l).getD i [] = Pdu.cells l[i] := by
  simp [pduRows, List.getD_eq_getElem?_getD, h]
theorem pduRows_length (l : List Pdu) : (pduRows l).length = l.length := by simp [pduRows]
def sameAllSt (a b : List Pdu) (i : Nat) : St := ⟨27, [(0, .im 7 (pduRows a)), (1, .im 7 (pduRows b)), (5, PI i)], [], 0, 0⟩
def sameAllI (a b : List Pdu) (m : Nat) (st : St) : Prop := ∃ i : Nat, i ≤ a.length ∧ m = a.length - i ∧ a.take i = b.take i ∧ st = sameAllSt a b i
theorem sameAll_calls (a b : List Pdu) (ha : a.length ≤ 100000) : PureCalls Try.prog 25 [.im 7 (pduRows a), .im 7 (pduRows b)] (PB (decide (a = b))) := by
  refine PureCalls.of tabOK mixed Try.func25 rfl rfl (by decide +kernel) (by simp [Try.ntmps25]) ?_
  by_cases hl : a.length = b.length
  rotate_left 1
  · have e1 : decide ((a.length : Int) = (b.length : Int)) = false := by simp; omega
    have e2 : decide (a = b) = false := by simp; intro h; rw [h] at hl; exact hl rfl
    rw [e2]
    simp only [go_sem, Nat.reduceAdd, Nat.reduceSub, Nat.reduceMul, Nat.reduceLT, Nat.reduceLeDiff, Nat.reduceEqDiff, Nat.reduceBEq, Int.reduceToNat, Int.reduceLT, Int.reduceLE, Int.reduceEq, Int.reduceNe, Int.reduceAdd, Int.reduceSub, Int.reduceMul, Int.reduceNeg, ↓reduceIte, reduceCtorEq, Try.ntmps25, Try.results25, pduRows_length, e1]
  have e1 : decide ((a.length : Int) = (b.length : Int)) = true := by simp; omega
  simp only [go_sem, Nat.reduceAdd, Nat.reduceSub, Nat.reduceMul, Nat.reduceLT, Nat.reduceLeDiff, Nat.reduceEqDiff, Nat.reduceBEq, Int.reduceToNat, Int.reduceLT, Int.reduceLE, Int.reduceEq, Int.reduceNe, Int.reduceAdd, Int.reduceSub, Int.reduceMul, Int.reduceNeg, ↓reduceIte, reduceCtorEq, Try.ntmps25, Try.results25, pduRows_length, e1]
  refine wpA_loop (sameAllI a b) ⟨_, _, ?_, 0, by omega, rfl, by simp, rfl⟩ ?_
  · simp only [go_sem, Nat.reduceAdd, Nat.reduceSub, Nat.reduceMul, Nat.reduceLT, Nat.reduceLeDiff, Nat.reduceEqDiff, Nat.reduceBEq, Int.reduceToNat, Int.reduceLT, Int.reduceLE, Int.reduceEq, Int.reduceNe, Int.reduceAdd, Int.reduceSub, Int.reduceMul, Int.reduceNeg, ↓reduceIte, reduceCtorEq, Int.natCast_zero, sameAllSt]
  rintro m st ⟨i, hi, rfl, hp, rfl⟩
  by_cases hc : i < a.length
  · have f1 : decide ((i : Int) < (a.length : Int)) = true := by simp; omega
    have f1' : ((i : Int) < (a.length : Int)) := by omega
    have f1b : ((i : Int) < (b.length : Int)) := by omega
    have f0 : (0 : Int) ≤ (i : Int) := by omega
    have hw : IntKind.wrap .i64 ((i : Int) + 1) = ((i + 1 : Nat) : Int) := by rw [wrapI64 (by omega)]; rfl
    have hb : i < b.length := by omega
    have cS := same_calls a[i] b[i]
    simp only [go_sem, Nat.reduceAdd, Nat.reduceSub, Nat.reduceMul, Nat.reduceLT, Nat.reduceLeDiff, Nat.reduceEqDiff, Nat.reduceBEq, Int.reduceToNat, Int.reduceLT, Int.reduceLE, Int.reduceEq, Int.reduceNe, Int.reduceAdd, Int.reduceSub, Int.reduceMul, Int.reduceNeg, ↓reduceIte, reduceCtorEq, sameAllSt, pduRows_length, f1, f1', f1b, f0, hw, Int.toNat_natCast, pduRows_getD hc, pduRows_getD hb, Pdu.cells]
    refine callD_same cS (by simp only [go_sem, Nat.reduceAdd, Nat.reduceSub, Nat.reduceMul, Nat.reduceLT, Nat.reduceLeDiff, Nat.reduceEqDiff, Nat.reduceBEq, Int.reduceToNat, Int.reduceLT, Int.reduceLE, Int.reduceEq, Int.reduceNe, Int.reduceAdd, Int.reduceSub, Int.reduceMul, Int.reduceNeg, ↓reduceIte, reduceCtorEq, Pdu.pv]) ?_
    simp only [go_sem, Nat.reduceAdd, Nat.reduceSub, Nat.reduceMul, Nat.reduceLT, Nat.reduceLeDiff, Nat.reduceEqDiff, Nat.reduceBEq, Int.reduceToNat, Int.reduceLT, Int.reduceLE, Int.reduceEq, Int.reduceNe, Int.reduceAdd, Int.reduceSub, Int.reduceMul, Int.reduceNeg, ↓reduceIte, reduceCtorEq]
    refine endD_intro (by decide +kernel) ?_
    by_cases he : a[i] = b[i]
    · have f2 : decide (a[i] = b[i]) = true := by simp [he]
      simp only [go_sem, Nat.reduceAdd, Nat.reduceSub, Nat.reduceMul, Nat.reduceLT, Nat.reduceLeDiff, Nat.reduceEqDiff, Nat.reduceBEq, Int.reduceToNat, Int.reduceLT, Int.reduceLE, Int.reduceEq, Int.reduceNe, Int.reduceAdd, Int.reduceSub, Int.reduceMul, Int.reduceNeg, ↓reduceIte, reduceCtorEq, f2, hw]
      refine ⟨a.length - (i + 1), _, by omega, ?_, i + 1, by omega, rfl, ?_, rfl⟩
      · simp only [go_sem, Nat.reduceAdd, Nat.reduceSub, Nat.reduceMul, Nat.reduceLT, Nat.reduceLeDiff, Nat.reduceEqDiff, Nat.reduceBEq, Int.reduceToNat, Int.reduceLT, Int.reduceLE, Int.reduceEq, Int.reduceNe, Int.reduceAdd, Int.reduceSub, Int.reduceMul, Int.reduceNeg, ↓reduceIte, reduceCtorEq, sameAllSt]
      · rw [List.take_succ_eq_append_getElem hc, List.take_succ_eq_append_getElem hb, hp, he]
    · have f2 : decide (a[i] = b[i]) = false := by simp [he]
      have e2 : decide (a = b) = false := by simp; intro h; subst h; exact he rfl
      simp only [go_sem, Nat.reduceAdd, Nat.reduceSub, Nat.reduceMul, Nat.reduceLT, Nat.reduceLeDiff, Nat.reduceEqDiff, Nat.reduceBEq, Int.reduceToNat, Int.reduceLT, Int.reduceLE, Int.reduceEq, Int.reduceNe, Int.reduceAdd, Int.reduceSub, Int.reduceMul, Int.reduceNeg, ↓reduceIte, reduceCtorEq, f2, e2, Try.ntmps25, Try.results25]
  · have f1 : decide ((i : Int) < (a.length : Int)) = false := by simp; omega
    have e2 : decide (a = b) = true := by
      simp
      have : i = a.length := by omega
      subst this
      rw [List.take_length, hl, List.take_length] at hp
      exact hp
    simp only [go_sem, Nat.reduceAdd, Nat.reduceSub, Nat.reduceMul, Nat.reduceLT, Nat.reduceLeDiff, Nat.reduceEqDiff, Nat.reduceBEq, Int.reduceToNat, Int.reduceLT, Int.reduceLE, Int.reduceEq, Int.reduceNe, Int.reduceAdd, Int.reduceSub, Int.reduceMul, Int.reduceNeg, ↓reduceIte, reduceCtorEq, sameAllSt, pduRows_length, f1, e2, Try.ntmps25, Try.results25]
end Go.Proofs.Ytefcpcepgflhdaa.Pe
