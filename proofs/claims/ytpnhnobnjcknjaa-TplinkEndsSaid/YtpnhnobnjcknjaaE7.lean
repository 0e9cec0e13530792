import Derived.Test.YtpnhnobnjcknjaaE4
namespace Go.Proofs.Ytpnhnobnjcknjaa.Pe
open Go.Pe Go.RowKit
set_option maxRecDepth 20000
set_option maxHeartbeats 4000000
set_option linter.unusedSimpArgs false
set_option linter.unusedVariables false
attribute [go_sem] pduRows_length
def fateR (fates : List Int) (k : Nat) : Int := if fateL fates k < 1 ∨ 4 < fateL fates k then 1 else fateL fates k
theorem fateR_calls (fates : List Int) (k : Nat) : PureCalls Try.prog 81 [intsPV fates, PI k] (PI (fateR fates k)) := by
  refine PureCalls.of tabOK mixed Try.func81 rfl rfl (by decide +kernel) (by simp [Try.ntmps81]) ?_
  by_cases hc : k < fates.length
  · have g1 : decide ((k : Int) ≥ (fates.length : Int)) = false := by simp; omega
    have f2 : (k : Int) < (fates.length : Int) := by omega
    have f3 : (0 : Int) ≤ (k : Int) := by omega
    have f4 : (fates.map rowI).getD k [] = [PI (fateL fates k)] := by simp [List.getD_eq_getElem?_getD, fateL, hc, rowI]
    unfold fateR
    generalize fateL fates k = f at f4
    by_cases h1 : f < 1
    · have g2 : decide (f < 1) = true := by simpa using h1
      rw [if_pos (.inl h1)]
      simp only [go_sem, Nat.reduceAdd, Nat.reduceSub, Nat.reduceMul, Nat.reduceLT, Nat.reduceLeDiff, Nat.reduceEqDiff, Nat.reduceBEq, Int.reduceToNat, Int.reduceLT, Int.reduceLE, Int.reduceEq, Int.reduceNe, Int.reduceAdd, Int.reduceSub, Int.reduceMul, Int.reduceNeg, ↓reduceIte, reduceCtorEq, g1, f2, f3, f4, g2, Int.toNat_natCast, List.length_map, Try.ntmps81, Try.results81]
    have g2 : decide (f < 1) = false := by simpa using h1
    by_cases h2 : 4 < f
    · have g3 : decide (f > 4) = true := by simpa using h2
      rw [if_pos (.inr h2)]
      simp only [go_sem, Nat.reduceAdd, Nat.reduceSub, Nat.reduceMul, Nat.reduceLT, Nat.reduceLeDiff, Nat.reduceEqDiff, Nat.reduceBEq, Int.reduceToNat, Int.reduceLT, Int.reduceLE, Int.reduceEq, Int.reduceNe, Int.reduceAdd, Int.reduceSub, Int.reduceMul, Int.reduceNeg, ↓reduceIte, reduceCtorEq, g1, f2, f3, f4, g2, g3, Int.toNat_natCast, List.length_map, Try.ntmps81, Try.results81]
    have g3 : decide (f > 4) = false := by simpa using h2
    rw [if_neg (by omega)]
    simp only [go_sem, Nat.reduceAdd, Nat.reduceSub, Nat.reduceMul, Nat.reduceLT, Nat.reduceLeDiff, Nat.reduceEqDiff, Nat.reduceBEq, Int.reduceToNat, Int.reduceLT, Int.reduceLE, Int.reduceEq, Int.reduceNe, Int.reduceAdd, Int.reduceSub, Int.reduceMul, Int.reduceNeg, ↓reduceIte, reduceCtorEq, g1, f2, f3, f4, g2, g3, Int.toNat_natCast, List.length_map, Try.ntmps81, Try.results81]
  · have g1 : decide ((k : Int) ≥ (fates.length : Int)) = true := by simp; omega
    have f4 : fateL fates k = 1 := by simp [fateL, List.getD_eq_getElem?_getD, List.getElem?_eq_none (Nat.le_of_not_lt hc)]
    rw [fateR, f4, if_neg (by omega)]
    simp only [go_sem, Nat.reduceAdd, Nat.reduceSub, Nat.reduceMul, Nat.reduceLT, Nat.reduceLeDiff, Nat.reduceEqDiff, Nat.reduceBEq, Int.reduceToNat, Int.reduceLT, Int.reduceLE, Int.reduceEq, Int.reduceNe, Int.reduceAdd, Int.reduceSub, Int.reduceMul, Int.reduceNeg, ↓reduceIte, reduceCtorEq, g1, List.length_map, Try.ntmps81, Try.results81]
theorem putW_fate (w : Way) (p : Pdu) (fates : List Int) (k : Nat) : putW w p (fateR fates k) = putW w p (fateL fates k) := by
  unfold fateR
  split
  · unfold putW
    rw [if_neg (by omega), if_neg (by omega), if_neg (by omega), if_neg (by omega), if_neg (by omega), if_neg (by omega)]
  · rfl
abbrev Way.cells (w : Way) : List PV := [.im 7 (pduRows w.u), .im 7 (pduRows w.h)]
theorem putR_calls (w : Way) (p : Pdu) (f : Int) (hw : w.len ≤ 1000000) : PureCalls Try.prog 80 [.agg w.cells, .agg p.cells, PI f] (.agg (putW w p f).cells) := by
  refine PureCalls.of tabOK mixed Try.func80 rfl rfl (by decide +kernel) (by simp [Try.ntmps80]) ?_
  have hl : w.len = w.u.length + w.h.length := rfl
  obtain ⟨u, h⟩ := w
  simp only at hl
  simp only [go_sem, Nat.reduceAdd, Nat.reduceSub, Nat.reduceMul, Nat.reduceLT, Nat.reduceLeDiff, Nat.reduceEqDiff, Nat.reduceBEq, Int.reduceToNat, Int.reduceLT, Int.reduceLE, Int.reduceEq, Int.reduceNe, Int.reduceAdd, Int.reduceSub, Int.reduceMul, Int.reduceNeg, ↓reduceIte, reduceCtorEq, Try.ntmps80, Try.results80]
  by_cases h2 : f = 2
  · have f2 : decide (f = 2) = true := by simpa using h2
    rw [show putW ⟨u, h⟩ p f = ⟨u, h⟩ by simp [putW, h2]]
    simp only [go_sem, Nat.reduceAdd, Nat.reduceSub, Nat.reduceMul, Nat.reduceLT, Nat.reduceLeDiff, Nat.reduceEqDiff, Nat.reduceBEq, Int.reduceToNat, Int.reduceLT, Int.reduceLE, Int.reduceEq, Int.reduceNe, Int.reduceAdd, Int.reduceSub, Int.reduceMul, Int.reduceNeg, ↓reduceIte, reduceCtorEq, f2, Try.ntmps80, Try.results80]
  have f2 : decide (f = 2) = false := by simpa using h2
  by_cases h4 : f = 4
  · have f4 : decide (f = 4) = true := by simpa using h4
    rw [show putW ⟨u, h⟩ p f = ⟨u, h ++ [p]⟩ by simp [putW, h4]]
    simp only [go_sem, Nat.reduceAdd, Nat.reduceSub, Nat.reduceMul, Nat.reduceLT, Nat.reduceLeDiff, Nat.reduceEqDiff, Nat.reduceBEq, Int.reduceToNat, Int.reduceLT, Int.reduceLE, Int.reduceEq, Int.reduceNe, Int.reduceAdd, Int.reduceSub, Int.reduceMul, Int.reduceNeg, ↓reduceIte, reduceCtorEq, f2, f4]
    repeat (first | refine And.intro (by omega) ?_ | refine And.intro (by simp only [List.length_append, List.length_cons, List.length_nil, pduRows_length]; omega) ?_)
    (refine endD_intro (by decide +kernel) ?_; simp only [go_sem, Nat.reduceAdd, Nat.reduceSub, Nat.reduceMul, Nat.reduceLT, Nat.reduceLeDiff, Nat.reduceEqDiff, Nat.reduceBEq, Int.reduceToNat, Int.reduceLT, Int.reduceLE, Int.reduceEq, Int.reduceNe, Int.reduceAdd, Int.reduceSub, Int.reduceMul, Int.reduceNeg, ↓reduceIte, reduceCtorEq, pduRows_append, pduRows_one, Try.ntmps80, Try.results80])
  have f4 : decide (f = 4) = false := by simpa using h4
  simp only [go_sem, Nat.reduceAdd, Nat.reduceSub, Nat.reduceMul, Nat.reduceLT, Nat.reduceLeDiff, Nat.reduceEqDiff, Nat.reduceBEq, Int.reduceToNat, Int.reduceLT, Int.reduceLE, Int.reduceEq, Int.reduceNe, Int.reduceAdd, Int.reduceSub, Int.reduceMul, Int.reduceNeg, ↓reduceIte, reduceCtorEq, f2, f4]
  repeat (first | refine And.intro (by omega) ?_ | refine And.intro (by simp only [List.length_append, List.length_cons, List.length_nil, pduRows_length]; omega) ?_)
  (refine endD_intro (by decide +kernel) ?_; simp only [go_sem, Nat.reduceAdd, Nat.reduceSub, Nat.reduceMul, Nat.reduceLT, Nat.reduceLeDiff, Nat.reduceEqDiff, Nat.reduceBEq, Int.reduceToNat, Int.reduceLT, Int.reduceLE, Int.reduceEq, Int.reduceNe, Int.reduceAdd, Int.reduceSub, Int.reduceMul, Int.reduceNeg, ↓reduceIte, reduceCtorEq])
  by_cases h3 : f = 3
  · have f3 : decide (f = 3) = true := by simpa using h3
    rw [show putW ⟨u, h⟩ p f = ⟨u ++ [p] ++ [p] ++ h, []⟩ by simp [putW, h2, h4, h3]]
    simp only [go_sem, Nat.reduceAdd, Nat.reduceSub, Nat.reduceMul, Nat.reduceLT, Nat.reduceLeDiff, Nat.reduceEqDiff, Nat.reduceBEq, Int.reduceToNat, Int.reduceLT, Int.reduceLE, Int.reduceEq, Int.reduceNe, Int.reduceAdd, Int.reduceSub, Int.reduceMul, Int.reduceNeg, ↓reduceIte, reduceCtorEq, f3]
    repeat (first | refine And.intro (by omega) ?_ | refine And.intro (by simp only [List.length_append, List.length_cons, List.length_nil, pduRows_length]; omega) ?_)
    simp only [go_sem, Nat.reduceAdd, Nat.reduceSub, Nat.reduceMul, Nat.reduceLT, Nat.reduceLeDiff, Nat.reduceEqDiff, Nat.reduceBEq, Int.reduceToNat, Int.reduceLT, Int.reduceLE, Int.reduceEq, Int.reduceNe, Int.reduceAdd, Int.reduceSub, Int.reduceMul, Int.reduceNeg, ↓reduceIte, reduceCtorEq, pduRows_append, pduRows_one, pduRows_nil, Try.ntmps80, Try.results80]
  have f3 : decide (f = 3) = false := by simpa using h3
  rw [show putW ⟨u, h⟩ p f = ⟨u ++ [p] ++ h, []⟩ by simp [putW, h2, h4, h3]]
  simp only [go_sem, Nat.reduceAdd, Nat.reduceSub, Nat.reduceMul, Nat.reduceLT, Nat.reduceLeDiff, Nat.reduceEqDiff, Nat.reduceBEq, Int.reduceToNat, Int.reduceLT, Int.reduceLE, Int.reduceEq, Int.reduceNe, Int.reduceAdd, Int.reduceSub, Int.reduceMul, Int.reduceNeg, ↓reduceIte, reduceCtorEq, f3]
  repeat (first | refine And.intro (by omega) ?_ | refine And.intro (by simp only [List.length_append, List.length_cons, List.length_nil, pduRows_length]; omega) ?_)
  simp only [go_sem, Nat.reduceAdd, Nat.reduceSub, Nat.reduceMul, Nat.reduceLT, Nat.reduceLeDiff, Nat.reduceEqDiff, Nat.reduceBEq, Int.reduceToNat, Int.reduceLT, Int.reduceLE, Int.reduceEq, Int.reduceNe, Int.reduceAdd, Int.reduceSub, Int.reduceMul, Int.reduceNeg, ↓reduceIte, reduceCtorEq, pduRows_append, pduRows_one, pduRows_nil, Try.ntmps80, Try.results80]
abbrev bothC (a b : Way) (m : Nat) : List PV := [.im 7 (pduRows a.u), .im 7 (pduRows a.h), .im 7 (pduRows b.u), .im 7 (pduRows b.h), PI m]
theorem thereR_calls (a b : Way) (m : Nat) (p : Pdu) (fates : List Int) (ha : a.len ≤ 1000000) (hm : m ≤ 1000000) : PureCalls Try.prog 72 [.agg (bothC a b m), .agg p.cells, intsPV fates] (.agg (bothC (putW a p (fateL fates m)) b (m + 1))) := by
  refine PureCalls.of tabOK mixed Try.func72 rfl rfl (by decide +kernel) (by simp [Try.ntmps72]) ?_
  have cF := fateR_calls fates m
  have cP := putR_calls a p (fateR fates m) ha
  rw [putW_fate] at cP
  generalize putW a p (fateL fates m) = a' at cP
  have hw := wrapIN (i := m) (by omega)
  simp only [go_sem, Nat.reduceAdd, Nat.reduceSub, Nat.reduceMul, Nat.reduceLT, Nat.reduceLeDiff, Nat.reduceEqDiff, Nat.reduceBEq, Int.reduceToNat, Int.reduceLT, Int.reduceLE, Int.reduceEq, Int.reduceNe, Int.reduceAdd, Int.reduceSub, Int.reduceMul, Int.reduceNeg, ↓reduceIte, reduceCtorEq, Try.ntmps72, Try.results72]
  (refine callD_pure (cF) (by simp only [go_sem, Nat.reduceAdd, Nat.reduceSub, Nat.reduceMul, Nat.reduceLT, Nat.reduceLeDiff, Nat.reduceEqDiff, Nat.reduceBEq, Int.reduceToNat, Int.reduceLT, Int.reduceLE, Int.reduceEq, Int.reduceNe, Int.reduceAdd, Int.reduceSub, Int.reduceMul, Int.reduceNeg, ↓reduceIte, reduceCtorEq] <;> first | rfl | decide) ?_; simp only [go_sem, Nat.reduceAdd, Nat.reduceSub, Nat.reduceMul, Nat.reduceLT, Nat.reduceLeDiff, Nat.reduceEqDiff, Nat.reduceBEq, Int.reduceToNat, Int.reduceLT, Int.reduceLE, Int.reduceEq, Int.reduceNe, Int.reduceAdd, Int.reduceSub, Int.reduceMul, Int.reduceNeg, ↓reduceIte, reduceCtorEq])
  (refine callD_pure (cP) (by simp only [go_sem, Nat.reduceAdd, Nat.reduceSub, Nat.reduceMul, Nat.reduceLT, Nat.reduceLeDiff, Nat.reduceEqDiff, Nat.reduceBEq, Int.reduceToNat, Int.reduceLT, Int.reduceLE, Int.reduceEq, Int.reduceNe, Int.reduceAdd, Int.reduceSub, Int.reduceMul, Int.reduceNeg, ↓reduceIte, reduceCtorEq] <;> first | rfl | decide) ?_; simp only [go_sem, Nat.reduceAdd, Nat.reduceSub, Nat.reduceMul, Nat.reduceLT, Nat.reduceLeDiff, Nat.reduceEqDiff, Nat.reduceBEq, Int.reduceToNat, Int.reduceLT, Int.reduceLE, Int.reduceEq, Int.reduceNe, Int.reduceAdd, Int.reduceSub, Int.reduceMul, Int.reduceNeg, ↓reduceIte, reduceCtorEq])
  (refine endD_intro (by decide +kernel) ?_; simp only [go_sem, Nat.reduceAdd, Nat.reduceSub, Nat.reduceMul, Nat.reduceLT, Nat.reduceLeDiff, Nat.reduceEqDiff, Nat.reduceBEq, Int.reduceToNat, Int.reduceLT, Int.reduceLE, Int.reduceEq, Int.reduceNe, Int.reduceAdd, Int.reduceSub, Int.reduceMul, Int.reduceNeg, ↓reduceIte, reduceCtorEq, hw, Try.ntmps72, Try.results72])
theorem backR_calls (a b : Way) (m : Nat) (p : Pdu) (fates : List Int) (hb : b.len ≤ 1000000) (hm : m ≤ 1000000) : PureCalls Try.prog 82 [.agg (bothC a b m), .agg p.cells, intsPV fates] (.agg (bothC a (putW b p (fateL fates m)) (m + 1))) := by
  refine PureCalls.of tabOK mixed Try.func82 rfl rfl (by decide +kernel) (by simp [Try.ntmps82]) ?_
  have cF := fateR_calls fates m
  have cP := putR_calls b p (fateR fates m) hb
  rw [putW_fate] at cP
  generalize putW b p (fateL fates m) = b' at cP
  have hw := wrapIN (i := m) (by omega)
  simp only [go_sem, Nat.reduceAdd, Nat.reduceSub, Nat.reduceMul, Nat.reduceLT, Nat.reduceLeDiff, Nat.reduceEqDiff, Nat.reduceBEq, Int.reduceToNat, Int.reduceLT, Int.reduceLE, Int.reduceEq, Int.reduceNe, Int.reduceAdd, Int.reduceSub, Int.reduceMul, Int.reduceNeg, ↓reduceIte, reduceCtorEq, Try.ntmps82, Try.results82]
  (refine callD_pure (cF) (by simp only [go_sem, Nat.reduceAdd, Nat.reduceSub, Nat.reduceMul, Nat.reduceLT, Nat.reduceLeDiff, Nat.reduceEqDiff, Nat.reduceBEq, Int.reduceToNat, Int.reduceLT, Int.reduceLE, Int.reduceEq, Int.reduceNe, Int.reduceAdd, Int.reduceSub, Int.reduceMul, Int.reduceNeg, ↓reduceIte, reduceCtorEq] <;> first | rfl | decide) ?_; simp only [go_sem, Nat.reduceAdd, Nat.reduceSub, Nat.reduceMul, Nat.reduceLT, Nat.reduceLeDiff, Nat.reduceEqDiff, Nat.reduceBEq, Int.reduceToNat, Int.reduceLT, Int.reduceLE, Int.reduceEq, Int.reduceNe, Int.reduceAdd, Int.reduceSub, Int.reduceMul, Int.reduceNeg, ↓reduceIte, reduceCtorEq])
  (refine callD_pure (cP) (by simp only [go_sem, Nat.reduceAdd, Nat.reduceSub, Nat.reduceMul, Nat.reduceLT, Nat.reduceLeDiff, Nat.reduceEqDiff, Nat.reduceBEq, Int.reduceToNat, Int.reduceLT, Int.reduceLE, Int.reduceEq, Int.reduceNe, Int.reduceAdd, Int.reduceSub, Int.reduceMul, Int.reduceNeg, ↓reduceIte, reduceCtorEq] <;> first | rfl | decide) ?_; simp only [go_sem, Nat.reduceAdd, Nat.reduceSub, Nat.reduceMul, Nat.reduceLT, Nat.reduceLeDiff, Nat.reduceEqDiff, Nat.reduceBEq, Int.reduceToNat, Int.reduceLT, Int.reduceLE, Int.reduceEq, Int.reduceNe, Int.reduceAdd, Int.reduceSub, Int.reduceMul, Int.reduceNeg, ↓reduceIte, reduceCtorEq])
  (refine endD_intro (by decide +kernel) ?_; simp only [go_sem, Nat.reduceAdd, Nat.reduceSub, Nat.reduceMul, Nat.reduceLT, Nat.reduceLeDiff, Nat.reduceEqDiff, Nat.reduceBEq, Int.reduceToNat, Int.reduceLT, Int.reduceLE, Int.reduceEq, Int.reduceNe, Int.reduceAdd, Int.reduceSub, Int.reduceMul, Int.reduceNeg, ↓reduceIte, reduceCtorEq, hw, Try.ntmps82, Try.results82])
end Go.Proofs.Ytpnhnobnjcknjaa.Pe
