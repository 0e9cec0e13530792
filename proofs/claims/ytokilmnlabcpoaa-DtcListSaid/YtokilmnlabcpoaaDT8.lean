import Derived.Test.YtokilmnlabcpoaaDT7
namespace Go.Proofs.Ytokilmnlabcpoaa.Pe
open Go.Pe Go.RowKit
set_option maxRecDepth 20000
set_option maxHeartbeats 4000000
set_option linter.unusedSimpArgs false
set_option linter.unusedVariables false

def scT (sc : Int) (f : Bool) : Int := if f = true then (if 4 < sc + 2 then 4 else sc + 2) else (if -4 > sc - 1 then -4 else sc - 1)
/-- A trouble behind a test. -/
def testedV (t : Trb) (f : Bool) : Trb :=
  if scT t.sc f = -4 then ⟨t.id, dropV (dropV t.st 8) 1, scT t.sc f, t.ca⟩
  else if scT t.sc f = 4 ∧ hasV (dropV t.st 8) 1 = false then ⟨t.id, setV (if hasV (dropV t.st 8) 2 = true then setV (dropV t.st 8) 4 else dropV t.st 8) 3, scT t.sc f, 0⟩
  else ⟨t.id, dropV t.st 8, scT t.sc f, t.ca⟩
theorem or12a : ∀ n : Nat, n < 16 → bitsA .or .i64 (bitsA .or .i64 (bitsA .andNot .i64 (n : Int) 8) 1) 2 = bitsA .or .i64 (bitsA .andNot .i64 (n : Int) 8) 3 := by decide +kernel
theorem or12b : ∀ n : Nat, n < 16 → bitsA .or .i64 (bitsA .or .i64 (bitsA .or .i64 (bitsA .andNot .i64 (n : Int) 8) 4) 1) 2 = bitsA .or .i64 (bitsA .or .i64 (bitsA .andNot .i64 (n : Int) 8) 4) 3 := by decide +kernel
theorem okR_bounds {t : Trb} (h : t.okR = true) : 0 ≤ t.id ∧ t.id ≤ 65535 ∧ 0 ≤ t.st ∧ t.st ≤ 15 ∧ -4 ≤ t.sc ∧ t.sc ≤ 4 ∧ 0 ≤ t.ca ∧ t.ca ≤ 2 := by
  simp only [Trb.okR, Bool.and_eq_true, Bool.not_eq_true', decide_eq_false_iff_not] at h
  omega
theorem testedR_calls (t : Trb) (f : Bool) (h : t.okR = true) : PureCalls Try.prog 67 [t.pv, PB f] (testedV t f).pv := by
  refine PureCalls.of tabOK mixed Try.func67 rfl rfl (by decide +kernel) (by simp [Try.ntmps67]) ?_
  obtain ⟨b1, b2, b3, b4, b5, b6, b7, b8⟩ := okR_bounds h
  obtain ⟨n, hn⟩ : ∃ n : Nat, t.st = n := ⟨t.st.toNat, by omega⟩
  have o1 := or12a n (by omega)
  have o2 := or12b n (by omega)
  rw [← hn] at o1 o2
  have w1 : IntKind.wrap .i64 (t.sc + 2) = t.sc + 2 := wrapI64 (by omega)
  have w2 : IntKind.wrap .i64 (t.sc - 1) = t.sc - 1 := wrapI64 (by omega)
  have main : ∀ sc : Int, scT t.sc f = sc → ∀ K : Prop, K → K := fun _ _ _ h => h
  have hv : (if f = true then (if 4 < t.sc + 2 then 4 else t.sc + 2) else (if -4 > t.sc - 1 then -4 else t.sc - 1)) = scT t.sc f := rfl
  obtain ⟨sc, hsc⟩ : ∃ sc, scT t.sc f = sc := ⟨_, rfl⟩
  have hT : testedV t f = (if sc = -4 then ⟨t.id, dropV (dropV t.st 8) 1, sc, t.ca⟩
    else if sc = 4 ∧ hasV (dropV t.st 8) 1 = false then ⟨t.id, setV (if hasV (dropV t.st 8) 2 = true then setV (dropV t.st 8) 4 else dropV t.st 8) 3, sc, 0⟩
    else ⟨t.id, dropV t.st 8, sc, t.ca⟩ : Trb) := by rw [testedV, hsc]
  rw [hT]
  have hf : (f = true ∧ (if 4 < t.sc + 2 then 4 else t.sc + 2) = sc) ∨ (f = false ∧ (if -4 > t.sc - 1 then -4 else t.sc - 1) = sc) := by
    rw [scT] at hsc
    cases f
    · exact .inr ⟨rfl, hsc⟩
    · exact .inl ⟨rfl, hsc⟩
  clear main hv hsc hT
  have c1 := hasR_calls ⟨t.id, dropV t.st 8, sc, t.ca⟩ 1
  have c2 := hasR_calls ⟨t.id, dropV t.st 8, sc, t.ca⟩ 2
  rcases hf with ⟨rfl, e⟩ | ⟨rfl, e⟩
  case' inl => simp only [go_sem, Nat.reduceAdd, Nat.reduceSub, Nat.reduceMul, Nat.reduceLT, Nat.reduceLeDiff, Nat.reduceEqDiff, Nat.reduceBEq, Int.reduceToNat, Int.reduceLT, Int.reduceLE, Int.reduceEq, Int.reduceNe, Int.reduceAdd, Int.reduceSub, Int.reduceMul, Int.reduceNeg, ↓reduceIte, reduceCtorEq, Try.ntmps67, Try.results67, Trb.pv, Trb.cells, w1, e]
  case' inr => simp only [go_sem, Nat.reduceAdd, Nat.reduceSub, Nat.reduceMul, Nat.reduceLT, Nat.reduceLeDiff, Nat.reduceEqDiff, Nat.reduceBEq, Int.reduceToNat, Int.reduceLT, Int.reduceLE, Int.reduceEq, Int.reduceNe, Int.reduceAdd, Int.reduceSub, Int.reduceMul, Int.reduceNeg, ↓reduceIte, reduceCtorEq, Try.ntmps67, Try.results67, Trb.pv, Trb.cells, w2, e]
  all_goals
    by_cases h4 : sc = 4
    · have g4 : decide (sc = 4) = true := decide_eq_true h4
      have g5 : decide (sc = -4) = false := decide_eq_false (by omega)
      simp only [go_sem, Nat.reduceAdd, Nat.reduceSub, Nat.reduceMul, Nat.reduceLT, Nat.reduceLeDiff, Nat.reduceEqDiff, Nat.reduceBEq, Int.reduceToNat, Int.reduceLT, Int.reduceLE, Int.reduceEq, Int.reduceNe, Int.reduceAdd, Int.reduceSub, Int.reduceMul, Int.reduceNeg, ↓reduceIte, reduceCtorEq, g4, Trb.cells]
      (refine CallA.pure (c1) (by simp only [go_sem, Nat.reduceAdd, Nat.reduceSub, Nat.reduceMul, Nat.reduceLT, Nat.reduceLeDiff, Nat.reduceEqDiff, Nat.reduceBEq, Int.reduceToNat, Int.reduceLT, Int.reduceLE, Int.reduceEq, Int.reduceNe, Int.reduceAdd, Int.reduceSub, Int.reduceMul, Int.reduceNeg, ↓reduceIte, reduceCtorEq, Trb.pv, Trb.cells] <;> first | rfl | decide) ?_; simp only [go_sem, Nat.reduceAdd, Nat.reduceSub, Nat.reduceMul, Nat.reduceLT, Nat.reduceLeDiff, Nat.reduceEqDiff, Nat.reduceBEq, Int.reduceToNat, Int.reduceLT, Int.reduceLE, Int.reduceEq, Int.reduceNe, Int.reduceAdd, Int.reduceSub, Int.reduceMul, Int.reduceNeg, ↓reduceIte, reduceCtorEq, Trb.pv, Trb.cells])
      cases k1 : hasV (dropV t.st 8) 1 with
      | true =>
        simp only [go_sem, Nat.reduceAdd, Nat.reduceSub, Nat.reduceMul, Nat.reduceLT, Nat.reduceLeDiff, Nat.reduceEqDiff, Nat.reduceBEq, Int.reduceToNat, Int.reduceLT, Int.reduceLE, Int.reduceEq, Int.reduceNe, Int.reduceAdd, Int.reduceSub, Int.reduceMul, Int.reduceNeg, ↓reduceIte, reduceCtorEq, g5, Try.ntmps67, Try.results67, Trb.cells]
        simp [h4]
      | false =>
        simp only [go_sem, Nat.reduceAdd, Nat.reduceSub, Nat.reduceMul, Nat.reduceLT, Nat.reduceLeDiff, Nat.reduceEqDiff, Nat.reduceBEq, Int.reduceToNat, Int.reduceLT, Int.reduceLE, Int.reduceEq, Int.reduceNe, Int.reduceAdd, Int.reduceSub, Int.reduceMul, Int.reduceNeg, ↓reduceIte, reduceCtorEq, Trb.cells]
        (refine CallA.pure (c2) (by simp only [go_sem, Nat.reduceAdd, Nat.reduceSub, Nat.reduceMul, Nat.reduceLT, Nat.reduceLeDiff, Nat.reduceEqDiff, Nat.reduceBEq, Int.reduceToNat, Int.reduceLT, Int.reduceLE, Int.reduceEq, Int.reduceNe, Int.reduceAdd, Int.reduceSub, Int.reduceMul, Int.reduceNeg, ↓reduceIte, reduceCtorEq, Trb.pv, Trb.cells] <;> first | rfl | decide) ?_; simp only [go_sem, Nat.reduceAdd, Nat.reduceSub, Nat.reduceMul, Nat.reduceLT, Nat.reduceLeDiff, Nat.reduceEqDiff, Nat.reduceBEq, Int.reduceToNat, Int.reduceLT, Int.reduceLE, Int.reduceEq, Int.reduceNe, Int.reduceAdd, Int.reduceSub, Int.reduceMul, Int.reduceNeg, ↓reduceIte, reduceCtorEq, Trb.pv, Trb.cells])
        cases k2 : hasV (dropV t.st 8) 2 with
        | true =>
          simp only [go_sem, Nat.reduceAdd, Nat.reduceSub, Nat.reduceMul, Nat.reduceLT, Nat.reduceLeDiff, Nat.reduceEqDiff, Nat.reduceBEq, Int.reduceToNat, Int.reduceLT, Int.reduceLE, Int.reduceEq, Int.reduceNe, Int.reduceAdd, Int.reduceSub, Int.reduceMul, Int.reduceNeg, ↓reduceIte, reduceCtorEq, g5, o1, o2, Try.ntmps67, Try.results67, Trb.cells]
          simp [h4, setV, dropV]
        | false =>
          simp only [go_sem, Nat.reduceAdd, Nat.reduceSub, Nat.reduceMul, Nat.reduceLT, Nat.reduceLeDiff, Nat.reduceEqDiff, Nat.reduceBEq, Int.reduceToNat, Int.reduceLT, Int.reduceLE, Int.reduceEq, Int.reduceNe, Int.reduceAdd, Int.reduceSub, Int.reduceMul, Int.reduceNeg, ↓reduceIte, reduceCtorEq, g5, o1, o2, Try.ntmps67, Try.results67, Trb.cells]
          simp [h4, setV, dropV]
    · have g4 : decide (sc = 4) = false := decide_eq_false h4
      by_cases h5 : sc = -4
      · have g5 : decide (sc = -4) = true := decide_eq_true h5
        simp only [go_sem, Nat.reduceAdd, Nat.reduceSub, Nat.reduceMul, Nat.reduceLT, Nat.reduceLeDiff, Nat.reduceEqDiff, Nat.reduceBEq, Int.reduceToNat, Int.reduceLT, Int.reduceLE, Int.reduceEq, Int.reduceNe, Int.reduceAdd, Int.reduceSub, Int.reduceMul, Int.reduceNeg, ↓reduceIte, reduceCtorEq, g4, g5, Try.ntmps67, Try.results67, Trb.cells]
        simp [h5, dropV]
      · have g5 : decide (sc = -4) = false := decide_eq_false h5
        simp only [go_sem, Nat.reduceAdd, Nat.reduceSub, Nat.reduceMul, Nat.reduceLT, Nat.reduceLeDiff, Nat.reduceEqDiff, Nat.reduceBEq, Int.reduceToNat, Int.reduceLT, Int.reduceLE, Int.reduceEq, Int.reduceNe, Int.reduceAdd, Int.reduceSub, Int.reduceMul, Int.reduceNeg, ↓reduceIte, reduceCtorEq, g4, g5, Try.ntmps67, Try.results67, Trb.cells]
        simp [h4, h5, dropV]
end Go.Proofs.Ytokilmnlabcpoaa.Pe
