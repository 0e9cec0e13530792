import Derived.Test.YtpnhnobnjcknjaaD1a
namespace Go.Proofs.Ytpnhnobnjcknjaa.Pe
open Go.Pe Go.RowKit
set_option maxRecDepth 20000
set_option maxHeartbeats 4000000
set_option linter.unusedSimpArgs false
set_option linter.unusedVariables false

/-- The table, where a slice of one's own that is cut stays one's own. -/
def tabT : Tab := fun t => if t = 26 then (tab t).map (fun ti => { ti with trunc := true }) else tab t
theorem tabTOK : TabOK Try.prog tabT := by
  intro t ti h
  unfold tabT at h
  split at h
  · obtain ⟨ti', h1, rfl⟩ := Option.map_eq_some_iff.1 h
    obtain ⟨q1, q2, q3⟩ := tabOK t ti' h1
    exact ⟨q1, q2, q3⟩
  · exact tabOK t ti h
theorem tabT_bytes : tabT 26 = some { ti26 with trunc := true } := rfl
theorem tabT_int : tabT 3 = tab 3 := rfl
theorem tabT_u8 : tabT 5 = tab 5 := rfl
theorem tabT_bool : tabT 4 = tab 4 := rfl
theorem tabT_str : tabT 9 = tab 9 := rfl
theorem tabT_bb : tabT 125 = tab 125 := rfl
attribute [go_sem] tabT_bytes tabT_int tabT_u8 tabT_bool tabT_str tabT_bb
/-- Grow of nil: a slice of its own, empty, with room. -/
theorem grow_call {n : Int} {hp : List (Nat × Blk)} {nx : Nat} {K KP : CK} (h0 : 0 ≤ n) (h1 : n ≤ 1000000) (hnx : lk nx hp = none) (hnx2 : lk (nx + 1) hp = none) (h : K (.own nx 1) ((nx, .arr 5 1 [] 1 false) :: (nx, .arr 5 1 (List.replicate n.toNat [.lit (.int .u8 0)]) 0 false) :: hp) (nx + 1 + 1)) (hnil : n = 0 → K (.lit (.slice none 0 0)) hp nx) :
    CallA Try.prog 86 [.lit (.slice none 0 0), PI n] hp nx K KP := by
  refine CallA.into tabTOK mixed Try.func86 rfl rfl (by decide +kernel) (by simp [Try.ntmps86]) ?_
  have g0 : decide (n < 0) = false := by simp; omega
  have hw0 : IntKind.wrap .i64 0 = 0 := by decide
  have hw : IntKind.wrap .i64 (n - 0) = n := by rw [wrapI64 (by omega)]; omega
  simp only [go_sem, Nat.reduceAdd, Nat.reduceSub, Nat.reduceMul, Nat.reduceLT, Nat.reduceLeDiff, Nat.reduceEqDiff, Nat.reduceBEq, Int.reduceToNat, Int.reduceLT, Int.reduceLE, Int.reduceEq, Int.reduceNe, Int.reduceAdd, Int.reduceSub, Int.reduceMul, Int.reduceNeg, ↓reduceIte, reduceCtorEq, Try.ntmps86, Try.results86, g0, hw0, hw]
  by_cases hn : n = 0
  · have g1 : decide (n > 0) = false := by simp; omega
    simp only [go_sem, Nat.reduceAdd, Nat.reduceSub, Nat.reduceMul, Nat.reduceLT, Nat.reduceLeDiff, Nat.reduceEqDiff, Nat.reduceBEq, Int.reduceToNat, Int.reduceLT, Int.reduceLE, Int.reduceEq, Int.reduceNe, Int.reduceAdd, Int.reduceSub, Int.reduceMul, Int.reduceNeg, ↓reduceIte, reduceCtorEq, Try.ntmps86, Try.results86, g0, hw0, hw, g1]
    exact hnil hn
  · have g1 : decide (n > 0) = true := by simp; omega
    simp only [go_sem, Nat.reduceAdd, Nat.reduceSub, Nat.reduceMul, Nat.reduceLT, Nat.reduceLeDiff, Nat.reduceEqDiff, Nat.reduceBEq, Int.reduceToNat, Int.reduceLT, Int.reduceLE, Int.reduceEq, Int.reduceNe, Int.reduceAdd, Int.reduceSub, Int.reduceMul, Int.reduceNeg, ↓reduceIte, reduceCtorEq, Try.ntmps86, Try.results86, g0, hw0, hw, g1, hnx, hnx2]
    exact ⟨⟨h0, by omega, by omega⟩, by rw [if_neg (by omega)], by omega, h⟩
theorem concat_calls (a b : List UInt8) (h : a.length + b.length ≤ 1000000) : PureCalls Try.prog 76 [.im 1 [[bytesPV a], [bytesPV b]]] (bytesPV (a ++ b)) := by
  refine PureCalls.of tabTOK mixed Try.func76 rfl rfl (by decide +kernel) (by simp [Try.ntmps76]) ?_
  simp only [go_sem, Nat.reduceAdd, Nat.reduceSub, Nat.reduceMul, Nat.reduceLT, Nat.reduceLeDiff, Nat.reduceEqDiff, Nat.reduceBEq, Int.reduceToNat, Int.reduceLT, Int.reduceLE, Int.reduceEq, Int.reduceNe, Int.reduceAdd, Int.reduceSub, Int.reduceMul, Int.reduceNeg, ↓reduceIte, reduceCtorEq, Try.ntmps76, Try.results76]
  refine wpA_loop (fun m s => ∃ i : Nat, i ≤ 2 ∧ m = 2 - i ∧ s = ⟨36, [(0, .im 1 [[bytesPV a], [bytesPV b]]), (3, PI (if i = 0 then 0 else if i = 1 then a.length else a.length + b.length)), (9, .im 1 [[bytesPV a], [bytesPV b]]), (10, PI 2), (11, PI i)], [], 0, 0⟩) ⟨2, _, ?_, 0, by omega, by omega, rfl⟩ ?_
  · simp only [go_sem, Nat.reduceAdd, Nat.reduceSub, Nat.reduceMul, Nat.reduceLT, Nat.reduceLeDiff, Nat.reduceEqDiff, Nat.reduceBEq, Int.reduceToNat, Int.reduceLT, Int.reduceLE, Int.reduceEq, Int.reduceNe, Int.reduceAdd, Int.reduceSub, Int.reduceMul, Int.reduceNeg, ↓reduceIte, reduceCtorEq, Int.natCast_zero]
  rintro m s ⟨i, hi, rfl, rfl⟩
  have hc : i = 0 ∨ i = 1 ∨ i = 2 := by omega
  rcases hc with rfl | rfl | rfl
  · have hw0 : IntKind.wrap .i64 (a.length : Int) = a.length := wrapI64 (by omega)
    have f0 : decide ((a.length : Int) < 0) = false := by simp
    have w1 : IntKind.wrap .i64 1 = 1 := by decide
    simp only [go_sem, Nat.reduceAdd, Nat.reduceSub, Nat.reduceMul, Nat.reduceLT, Nat.reduceLeDiff, Nat.reduceEqDiff, Nat.reduceBEq, Int.reduceToNat, Int.reduceLT, Int.reduceLE, Int.reduceEq, Int.reduceNe, Int.reduceAdd, Int.reduceSub, Int.reduceMul, Int.reduceNeg, ↓reduceIte, reduceCtorEq, hw0, f0, w1, Int.natCast_zero, Int.natCast_one, Int.zero_add]
    refine ⟨1, _, by omega, ?_, 1, by omega, rfl, rfl⟩
    simp only [go_sem, Nat.reduceAdd, Nat.reduceSub, Nat.reduceMul, Nat.reduceLT, Nat.reduceLeDiff, Nat.reduceEqDiff, Nat.reduceBEq, Int.reduceToNat, Int.reduceLT, Int.reduceLE, Int.reduceEq, Int.reduceNe, Int.reduceAdd, Int.reduceSub, Int.reduceMul, Int.reduceNeg, ↓reduceIte, reduceCtorEq, Int.natCast_one]
  · have hw0 : IntKind.wrap .i64 ((a.length : Int) + (b.length : Int)) = a.length + b.length := wrapI64 (by omega)
    have f0 : decide ((a.length : Int) + (b.length : Int) < 0) = false := by simp; omega
    have w1 : IntKind.wrap .i64 2 = 2 := by decide
    simp only [go_sem, Nat.reduceAdd, Nat.reduceSub, Nat.reduceMul, Nat.reduceLT, Nat.reduceLeDiff, Nat.reduceEqDiff, Nat.reduceBEq, Int.reduceToNat, Int.reduceLT, Int.reduceLE, Int.reduceEq, Int.reduceNe, Int.reduceAdd, Int.reduceSub, Int.reduceMul, Int.reduceNeg, ↓reduceIte, reduceCtorEq, hw0, f0, w1, Int.natCast_zero, Int.natCast_one]
    refine ⟨0, _, by omega, ?_, 2, by omega, rfl, rfl⟩
    simp only [go_sem, Nat.reduceAdd, Nat.reduceSub, Nat.reduceMul, Nat.reduceLT, Nat.reduceLeDiff, Nat.reduceEqDiff, Nat.reduceBEq, Int.reduceToNat, Int.reduceLT, Int.reduceLE, Int.reduceEq, Int.reduceNe, Int.reduceAdd, Int.reduceSub, Int.reduceMul, Int.reduceNeg, ↓reduceIte, reduceCtorEq, Int.natCast_one]
  · have e2 : decide (((2 : Nat) : Int) < 2) = false := by decide
    have la : (rowsB a).length = a.length := rowsB_length a
    have ha0 : ∀ (x y : Int), (x = a.length ∧ y = b.length) → IntKind.wrap .i64 1 = 1 := fun _ _ _ => by decide
    have w1 : IntKind.wrap .i64 1 = 1 := by decide
    have w2 : IntKind.wrap .i64 2 = 2 := by decide
    simp only [go_sem, Nat.reduceAdd, Nat.reduceSub, Nat.reduceMul, Nat.reduceLT, Nat.reduceLeDiff, Nat.reduceEqDiff, Nat.reduceBEq, Int.reduceToNat, Int.reduceLT, Int.reduceLE, Int.reduceEq, Int.reduceNe, Int.reduceAdd, Int.reduceSub, Int.reduceMul, Int.reduceNeg, ↓reduceIte, reduceCtorEq, e2]
    refine grow_call (by omega) (by omega) rfl rfl ?_ ?_
    · simp only [go_sem, Nat.reduceAdd, Nat.reduceSub, Nat.reduceMul, Nat.reduceLT, Nat.reduceLeDiff, Nat.reduceEqDiff, Nat.reduceBEq, Int.reduceToNat, Int.reduceLT, Int.reduceLE, Int.reduceEq, Int.reduceNe, Int.reduceAdd, Int.reduceSub, Int.reduceMul, Int.reduceNeg, ↓reduceIte, reduceCtorEq]
      refine wpA_loop (fun m s => ∃ i v : Nat, i ≤ 2 ∧ m = 2 - i ∧ s = ⟨36, [(6, .own 0 v), (25, .im 1 [[bytesPV a], [bytesPV b]]), (26, PI 2), (27, PI i)], [(0, .arr 5 1 (rowsB (if i = 0 then [] else if i = 1 then a else a ++ b)) v false)], 3, 0⟩) ⟨2, _, ?_, 0, 1, by omega, by omega, rfl⟩ ?_
      · simp only [go_sem, Nat.reduceAdd, Nat.reduceSub, Nat.reduceMul, Nat.reduceLT, Nat.reduceLeDiff, Nat.reduceEqDiff, Nat.reduceBEq, Int.reduceToNat, Int.reduceLT, Int.reduceLE, Int.reduceEq, Int.reduceNe, Int.reduceAdd, Int.reduceSub, Int.reduceMul, Int.reduceNeg, ↓reduceIte, reduceCtorEq, Int.natCast_zero]
      rintro m s ⟨i, v, hi, rfl, rfl⟩
      have hc : i = 0 ∨ i = 1 ∨ i = 2 := by omega
      rcases hc with rfl | rfl | rfl
      · simp only [go_sem, Nat.reduceAdd, Nat.reduceSub, Nat.reduceMul, Nat.reduceLT, Nat.reduceLeDiff, Nat.reduceEqDiff, Nat.reduceBEq, Int.reduceToNat, Int.reduceLT, Int.reduceLE, Int.reduceEq, Int.reduceNe, Int.reduceAdd, Int.reduceSub, Int.reduceMul, Int.reduceNeg, ↓reduceIte, reduceCtorEq, w1, Int.natCast_zero, List.length_nil]
        refine ⟨⟨by omega, by omega⟩, 1, _, by omega, ?_, 1, v + 1, by omega, rfl, rfl⟩
        simp only [go_sem, Nat.reduceAdd, Nat.reduceSub, Nat.reduceMul, Nat.reduceLT, Nat.reduceLeDiff, Nat.reduceEqDiff, Nat.reduceBEq, Int.reduceToNat, Int.reduceLT, Int.reduceLE, Int.reduceEq, Int.reduceNe, Int.reduceAdd, Int.reduceSub, Int.reduceMul, Int.reduceNeg, ↓reduceIte, reduceCtorEq, Int.natCast_one]
      · simp only [go_sem, Nat.reduceAdd, Nat.reduceSub, Nat.reduceMul, Nat.reduceLT, Nat.reduceLeDiff, Nat.reduceEqDiff, Nat.reduceBEq, Int.reduceToNat, Int.reduceLT, Int.reduceLE, Int.reduceEq, Int.reduceNe, Int.reduceAdd, Int.reduceSub, Int.reduceMul, Int.reduceNeg, ↓reduceIte, reduceCtorEq, w2, Int.natCast_one]
        refine ⟨⟨by omega, by omega⟩, 0, _, by omega, ?_, 2, v + 1, by omega, rfl, rfl⟩
        simp only [go_sem, Nat.reduceAdd, Nat.reduceSub, Nat.reduceMul, Nat.reduceLT, Nat.reduceLeDiff, Nat.reduceEqDiff, Nat.reduceBEq, Int.reduceToNat, Int.reduceLT, Int.reduceLE, Int.reduceEq, Int.reduceNe, Int.reduceAdd, Int.reduceSub, Int.reduceMul, Int.reduceNeg, ↓reduceIte, reduceCtorEq, Int.natCast_one]
      · simp only [go_sem, Nat.reduceAdd, Nat.reduceSub, Nat.reduceMul, Nat.reduceLT, Nat.reduceLeDiff, Nat.reduceEqDiff, Nat.reduceBEq, Int.reduceToNat, Int.reduceLT, Int.reduceLE, Int.reduceEq, Int.reduceNe, Int.reduceAdd, Int.reduceSub, Int.reduceMul, Int.reduceNeg, ↓reduceIte, reduceCtorEq, e2, Try.ntmps76, Try.results76]
    · intro h0
      have ha : a = [] := List.eq_nil_of_length_eq_zero (by omega)
      have hb : b = [] := List.eq_nil_of_length_eq_zero (by omega)
      subst ha hb
      simp only [go_sem, Nat.reduceAdd, Nat.reduceSub, Nat.reduceMul, Nat.reduceLT, Nat.reduceLeDiff, Nat.reduceEqDiff, Nat.reduceBEq, Int.reduceToNat, Int.reduceLT, Int.reduceLE, Int.reduceEq, Int.reduceNe, Int.reduceAdd, Int.reduceSub, Int.reduceMul, Int.reduceNeg, ↓reduceIte, reduceCtorEq]
      refine wpA_loop (fun m s => ∃ i v : Nat, i ≤ 2 ∧ m = 2 - i ∧ ((i = 0 ∧ s = ⟨36, [(6, .lit (.slice none 0 0)), (25, .im 1 [[bytesPV []], [bytesPV []]]), (26, PI 2), (27, PI i)], [], 3, 0⟩) ∨ (0 < i ∧ s = ⟨36, [(6, .own 3 v), (25, .im 1 [[bytesPV []], [bytesPV []]]), (26, PI 2), (27, PI i)], [(3, .arr 5 1 [] v false)], 4, 0⟩))) ⟨2, _, ?_, 0, 0, by omega, by omega, .inl ⟨rfl, rfl⟩⟩ ?_
      · simp only [go_sem, Nat.reduceAdd, Nat.reduceSub, Nat.reduceMul, Nat.reduceLT, Nat.reduceLeDiff, Nat.reduceEqDiff, Nat.reduceBEq, Int.reduceToNat, Int.reduceLT, Int.reduceLE, Int.reduceEq, Int.reduceNe, Int.reduceAdd, Int.reduceSub, Int.reduceMul, Int.reduceNeg, ↓reduceIte, reduceCtorEq, Int.natCast_zero]
      rintro m s ⟨i, v, hi, rfl, ⟨rfl, rfl⟩ | ⟨hp, rfl⟩⟩
      · simp only [go_sem, Nat.reduceAdd, Nat.reduceSub, Nat.reduceMul, Nat.reduceLT, Nat.reduceLeDiff, Nat.reduceEqDiff, Nat.reduceBEq, Int.reduceToNat, Int.reduceLT, Int.reduceLE, Int.reduceEq, Int.reduceNe, Int.reduceAdd, Int.reduceSub, Int.reduceMul, Int.reduceNeg, ↓reduceIte, reduceCtorEq, w1, Int.natCast_zero, List.length_nil]
        refine ⟨1, _, by omega, ?_, 1, 0, by omega, rfl, .inr ⟨by omega, rfl⟩⟩
        simp only [go_sem, Nat.reduceAdd, Nat.reduceSub, Nat.reduceMul, Nat.reduceLT, Nat.reduceLeDiff, Nat.reduceEqDiff, Nat.reduceBEq, Int.reduceToNat, Int.reduceLT, Int.reduceLE, Int.reduceEq, Int.reduceNe, Int.reduceAdd, Int.reduceSub, Int.reduceMul, Int.reduceNeg, ↓reduceIte, reduceCtorEq, Int.natCast_one]
      have hc : i = 1 ∨ i = 2 := by omega
      rcases hc with rfl | rfl
      · simp only [go_sem, Nat.reduceAdd, Nat.reduceSub, Nat.reduceMul, Nat.reduceLT, Nat.reduceLeDiff, Nat.reduceEqDiff, Nat.reduceBEq, Int.reduceToNat, Int.reduceLT, Int.reduceLE, Int.reduceEq, Int.reduceNe, Int.reduceAdd, Int.reduceSub, Int.reduceMul, Int.reduceNeg, ↓reduceIte, reduceCtorEq, w2, Int.natCast_one]
        refine ⟨0, _, by omega, ?_, 2, v + 1, by omega, rfl, .inr ⟨by omega, rfl⟩⟩
        simp only [go_sem, Nat.reduceAdd, Nat.reduceSub, Nat.reduceMul, Nat.reduceLT, Nat.reduceLeDiff, Nat.reduceEqDiff, Nat.reduceBEq, Int.reduceToNat, Int.reduceLT, Int.reduceLE, Int.reduceEq, Int.reduceNe, Int.reduceAdd, Int.reduceSub, Int.reduceMul, Int.reduceNeg, ↓reduceIte, reduceCtorEq, Int.natCast_one]
      · simp only [go_sem, Nat.reduceAdd, Nat.reduceSub, Nat.reduceMul, Nat.reduceLT, Nat.reduceLeDiff, Nat.reduceEqDiff, Nat.reduceBEq, Int.reduceToNat, Int.reduceLT, Int.reduceLE, Int.reduceEq, Int.reduceNe, Int.reduceAdd, Int.reduceSub, Int.reduceMul, Int.reduceNeg, ↓reduceIte, reduceCtorEq, e2, Try.ntmps76, Try.results76]
end Go.Proofs.Ytpnhnobnjcknjaa.Pe
