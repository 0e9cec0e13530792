import Derived.Test.YtpnhnobnjcknjaaC7
import Derived.Test.YtpnhnobnjcknjaaCPb
namespace Go.Proofs.Ytpnhnobnjcknjaa.Pe
open Go.Pe Go.RowKit
set_option maxRecDepth 20000
set_option maxHeartbeats 4000000
set_option linter.unusedSimpArgs false
set_option linter.unusedVariables false

def partsSt (b : List UInt8) (acc : List Pdu) (ver at_ : Nat) (num : Int) : St := ⟨58, [(0, bytesPV b), (4, PI b.length), (5, .own 2 ver), (6, PI num), (7, PI at_)], [(2, .arr 33 7 (pduRows acc) ver false)], 9, 0⟩
def partsI (b : List UInt8) (m : Nat) (st : St) : Prop := ∃ (acc : List Pdu) (ver at_ : Nat) (num : Int), at_ ≤ b.length + 6 ∧ acc.length ≤ at_ ∧ 0 ≤ num ∧ num ≤ 15 ∧ m = b.length + 7 - at_ ∧ acc ++ nexts b.length num (b.drop at_) = partsL b ∧ st = partsSt b acc ver at_ num
theorem partsR_calls (b : List UInt8) : PureCalls Try.prog 37 [bytesPV b] (.tup [.im 7 (pduRows (partsL b)), PB (partsB b)]) := by
  refine PureCalls.of tabOK mixed Try.func37 rfl rfl (by decide +kernel) (by simp [Try.ntmps37]) ?_
  simp only [go_sem, Nat.reduceAdd, Nat.reduceSub, Nat.reduceMul, Nat.reduceLT, Nat.reduceLeDiff, Nat.reduceEqDiff, Nat.reduceBEq, Int.reduceToNat, Int.reduceLT, Int.reduceLE, Int.reduceEq, Int.reduceNe, Int.reduceAdd, Int.reduceSub, Int.reduceMul, Int.reduceNeg, ↓reduceIte, reduceCtorEq, Try.ntmps37, Try.results37]
  by_cases h1 : b.length = 0
  · have e1 : partsL b = [] := by simp [partsL, h1]
    have e2 : partsB b = false := by simp [partsB, h1]
    have e3 : decide ((b.length : Int) = 0) = true := by simp [h1]
    simp only [go_sem, Nat.reduceAdd, Nat.reduceSub, Nat.reduceMul, Nat.reduceLT, Nat.reduceLeDiff, Nat.reduceEqDiff, Nat.reduceBEq, Int.reduceToNat, Int.reduceLT, Int.reduceLE, Int.reduceEq, Int.reduceNe, Int.reduceAdd, Int.reduceSub, Int.reduceMul, Int.reduceNeg, ↓reduceIte, reduceCtorEq, e1, e2, e3, Try.ntmps37, Try.results37]
  have g1 : decide ((b.length : Int) = 0) = false := by simpa using h1
  by_cases h2 : 4095 < b.length
  · have e1 : partsL b = [] := by simp [partsL, h2]
    have e2 : partsB b = false := by simp [partsB, h2]
    have e3 : decide (4095 < (b.length : Int)) = true := by simp; omega
    simp only [go_sem, Nat.reduceAdd, Nat.reduceSub, Nat.reduceMul, Nat.reduceLT, Nat.reduceLeDiff, Nat.reduceEqDiff, Nat.reduceBEq, Int.reduceToNat, Int.reduceLT, Int.reduceLE, Int.reduceEq, Int.reduceNe, Int.reduceAdd, Int.reduceSub, Int.reduceMul, Int.reduceNeg, ↓reduceIte, reduceCtorEq, e1, e2, g1, e3, Try.ntmps37, Try.results37]
  have g2 : decide (4095 < (b.length : Int)) = false := by simp; omega
  have e2 : partsB b = true := by simp [partsB, h1, h2]
  by_cases h3 : b.length ≤ 7
  · have e1 : partsL b = [⟨1, b.length, 0, 0, 0, 0, b⟩] := by simp only [partsL, h1, h2, h3]; simp
    have e3 : decide ((b.length : Int) ≤ 7) = true := by simp; omega
    simp only [go_sem, Nat.reduceAdd, Nat.reduceSub, Nat.reduceMul, Nat.reduceLT, Nat.reduceLeDiff, Nat.reduceEqDiff, Nat.reduceBEq, Int.reduceToNat, Int.reduceLT, Int.reduceLE, Int.reduceEq, Int.reduceNe, Int.reduceAdd, Int.reduceSub, Int.reduceMul, Int.reduceNeg, ↓reduceIte, reduceCtorEq, e1, e2, g1, g2, e3, Try.ntmps37, Try.results37]
    exact ⟨by omega, by omega⟩
  have g3 : decide ((b.length : Int) ≤ 7) = false := by simp; omega
  simp only [go_sem, Nat.reduceAdd, Nat.reduceSub, Nat.reduceMul, Nat.reduceLT, Nat.reduceLeDiff, Nat.reduceEqDiff, Nat.reduceBEq, Int.reduceToNat, Int.reduceLT, Int.reduceLE, Int.reduceEq, Int.reduceNe, Int.reduceAdd, Int.reduceSub, Int.reduceMul, Int.reduceNeg, ↓reduceIte, reduceCtorEq, g1, g2, g3]
  refine ⟨by omega, ⟨by simp; omega, by simp; omega⟩, ?_⟩
  refine wpA_loop (partsI b) ⟨_, _, ?_, [⟨2, b.length, 0, 0, 0, 0, b.take 6⟩], 0, 6, 1, by omega, by simp, by omega, by omega, rfl, ?_, rfl⟩ ?_
  · simp only [go_sem, Nat.reduceAdd, Nat.reduceSub, Nat.reduceMul, Nat.reduceLT, Nat.reduceLeDiff, Nat.reduceEqDiff, Nat.reduceBEq, Int.reduceToNat, Int.reduceLT, Int.reduceLE, Int.reduceEq, Int.reduceNe, Int.reduceAdd, Int.reduceSub, Int.reduceMul, Int.reduceNeg, ↓reduceIte, reduceCtorEq, partsSt, pduRows, Pdu.cells]
  · rw [partsL, if_neg (by omega), if_neg (by omega)]
    rfl
  rintro m st ⟨acc, ver, at_, num, q1, q2, q3, q4, rfl, q5, rfl⟩
  by_cases hc : at_ < b.length
  · have e1 : decide ((at_ : Int) < (b.length : Int)) = true := by simp; omega
    have hw1 : IntKind.wrap .i64 ((at_ : Int) + 7) = ((at_ + 7 : Nat) : Int) := by rw [wrapI64 (by omega)]; rfl
    have hw2 : IntKind.wrap .i64 (num + 1) = num + 1 := wrapI64 (by omega)
    have key : nexts b.length num (b.drop at_) = ⟨3, 0, num, 0, 0, 0, (b.drop at_).take 7⟩ :: nexts b.length ((num + 1).tmod 16) (b.drop (at_ + 7)) := by
      obtain ⟨f, hf⟩ : ∃ f, b.length = f + 1 := ⟨b.length - 1, by omega⟩
      rw [hf]
      show (if b.drop at_ = [] then [] else (⟨3, 0, num, 0, 0, 0, (b.drop at_).take 7⟩ : Pdu) :: nexts f ((num + 1).tmod 16) ((b.drop at_).drop 7)) = _
      rw [if_neg (by intro h; have := congrArg List.length h; simp at this; omega), List.drop_drop]
      rw [nexts_fuel f (f + 1) _ _ (by simp; omega) (by simp; omega)]
    have hm0 : 0 ≤ (num + 1).tmod 16 := Int.tmod_nonneg _ (by omega)
    have hm1 : (num + 1).tmod 16 < 16 := Int.tmod_lt_of_pos _ (by omega)
    rw [key] at q5
    have fin : ∀ st', Weak st' (partsSt b (acc ++ [⟨3, 0, num, 0, 0, 0, (b.drop at_).take 7⟩]) (ver + 1) (at_ + 7) ((num + 1).tmod 16)) → ∃ m' s'', m' < b.length + 7 - at_ ∧ Weak st' s'' ∧ partsI b m' s'' :=
      fun st' h => ⟨b.length + 7 - (at_ + 7), _, by omega, h, _, _, _, _, by omega, by simp; omega, hm0, by omega, rfl, by rw [← q5]; simp, rfl⟩
    by_cases hg : at_ + 7 ≤ b.length
    · have e2 : decide (((at_ + 7 : Nat) : Int) > (b.length : Int)) = false := by simp; omega
      have hsl : (b.take (at_ + 7)).drop at_ = (b.drop at_).take 7 := by rw [List.drop_take]; congr 1; omega
      simp only [go_sem, Nat.reduceAdd, Nat.reduceSub, Nat.reduceMul, Nat.reduceLT, Nat.reduceLeDiff, Nat.reduceEqDiff, Nat.reduceBEq, Int.reduceToNat, Int.reduceLT, Int.reduceLE, Int.reduceEq, Int.reduceNe, Int.reduceAdd, Int.reduceSub, Int.reduceMul, Int.reduceNeg, ↓reduceIte, reduceCtorEq, partsSt, e1, hw1, hw2, e2, Int.toNat_natCast, hsl]
      refine ⟨⟨by omega, by omega, by omega⟩, ⟨by simp; omega, by simp; omega⟩, ⟨by simp; omega, by simp; omega⟩, ?_⟩
      refine fin _ ?_
      simp only [go_sem, Nat.reduceAdd, Nat.reduceSub, Nat.reduceMul, Nat.reduceLT, Nat.reduceLeDiff, Nat.reduceEqDiff, Nat.reduceBEq, Int.reduceToNat, Int.reduceLT, Int.reduceLE, Int.reduceEq, Int.reduceNe, Int.reduceAdd, Int.reduceSub, Int.reduceMul, Int.reduceNeg, ↓reduceIte, reduceCtorEq, partsSt]
      simp [pduRows]
    · have e2 : decide (((at_ + 7 : Nat) : Int) > (b.length : Int)) = true := by simp; omega
      have hsl : (b.take b.length).drop at_ = (b.drop at_).take 7 := by rw [List.take_length, List.take_of_length_le (by simp; omega)]
      simp only [go_sem, Nat.reduceAdd, Nat.reduceSub, Nat.reduceMul, Nat.reduceLT, Nat.reduceLeDiff, Nat.reduceEqDiff, Nat.reduceBEq, Int.reduceToNat, Int.reduceLT, Int.reduceLE, Int.reduceEq, Int.reduceNe, Int.reduceAdd, Int.reduceSub, Int.reduceMul, Int.reduceNeg, ↓reduceIte, reduceCtorEq, partsSt, e1, hw1, hw2, e2, Int.toNat_natCast, hsl]
      refine ⟨⟨by omega, by omega, by omega⟩, ⟨by simp; omega, by simp; omega⟩, ⟨by simp; omega, by simp; omega⟩, ?_⟩
      refine fin _ ?_
      simp only [go_sem, Nat.reduceAdd, Nat.reduceSub, Nat.reduceMul, Nat.reduceLT, Nat.reduceLeDiff, Nat.reduceEqDiff, Nat.reduceBEq, Int.reduceToNat, Int.reduceLT, Int.reduceLE, Int.reduceEq, Int.reduceNe, Int.reduceAdd, Int.reduceSub, Int.reduceMul, Int.reduceNeg, ↓reduceIte, reduceCtorEq, partsSt]
      simp [pduRows]
  · have e1 : decide ((at_ : Int) < (b.length : Int)) = false := by simp; omega
    simp only [go_sem, Nat.reduceAdd, Nat.reduceSub, Nat.reduceMul, Nat.reduceLT, Nat.reduceLeDiff, Nat.reduceEqDiff, Nat.reduceBEq, Int.reduceToNat, Int.reduceLT, Int.reduceLE, Int.reduceEq, Int.reduceNe, Int.reduceAdd, Int.reduceSub, Int.reduceMul, Int.reduceNeg, ↓reduceIte, reduceCtorEq, partsSt, e1, Try.ntmps37, Try.results37]
    have hn : nexts b.length num (b.drop at_) = [] := by
      rw [List.drop_eq_nil_of_le (by omega)]
      cases b.length <;> simp [nexts]
    rw [hn, List.append_nil] at q5
    rw [q5]
    exact ⟨rfl, e2⟩
end Go.Proofs.Ytpnhnobnjcknjaa.Pe
