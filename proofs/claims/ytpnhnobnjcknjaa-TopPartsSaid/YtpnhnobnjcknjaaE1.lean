import Derived.Test.YtpnhnobnjcknjaaE0
namespace Go.Proofs.Ytpnhnobnjcknjaa.Pe
open Go.Pe Go.RowKit
set_option maxRecDepth 20000
set_option maxHeartbeats 4000000
set_option linter.unusedSimpArgs false
set_option linter.unusedVariables false

theorem lk_fresh {nx : Nat} : ∀ {hp : List (Nat × Blk)}, (∀ x ∈ hp, x.1 < nx) → lk nx hp = none
  | [], _ => rfl
  | (j, x) :: l, h => by
    have h1 : j < nx := h (j, x) List.mem_cons_self
    rw [lk, if_neg (by omega)]
    exact lk_fresh fun y hy => h y (List.mem_cons_of_mem _ hy)
theorem fate_eff {fates : List Int} {m mb fb : Nat} {H : Heap} (hne : ¬ fb = mb) (hm : m ≤ 1000000) (h1 : H mb = some (.box 3 [PI m])) (h2 : H fb = some (.box 64 [intsPV fates])) :
    EffCalls Try.prog 68 [.ptr mb 0, .ptr fb 0] H (PI (fateL fates m)) [(mb, .box 3 [PI ((m + 1 : Nat) : Int)])] := by
  refine EffCalls.of ⟨_, by rfl, by decide +kernel, by decide +kernel⟩ fun hp nx hH hx => ?_
  have e1 : lk mb hp = some (.box 3 [PI m]) := by rw [hH mb (by simp [footL, ptrsOf, deepL, deepB]), h1]
  have e2 : lk fb hp = some (.box 64 [intsPV fates]) := by rw [hH fb (by simp [footL, ptrsOf, deepL, deepB]), h2]
  refine CallA.into tabOK mixed Try.func68 rfl rfl (by decide +kernel) (by simp [Try.ntmps68]) ?_
  have e3 := lk_fresh hx
  have hw := wrapIN (i := m) (by omega)
  have hw2 : IntKind.wrap .i64 (((m + 1 : Nat) : Int) - 1) = m := by rw [wrapI64 (by omega)]; omega
  by_cases hc : m < fates.length
  · have f1 : decide (((m + 1 : Nat) : Int) > (fates.length : Int)) = false := by simp; omega
    have f2 : (m : Int) < (fates.length : Int) := by omega
    have f3 : (0 : Int) ≤ (m : Int) := by omega
    have f4 : (fates.map rowI).getD m [] = [PI (fateL fates m)] := by simp [List.getD_eq_getElem?_getD, fateL, hc, rowI]
    simp only [go_sem, Nat.reduceAdd, Nat.reduceSub, Nat.reduceMul, Nat.reduceLT, Nat.reduceLeDiff, Nat.reduceEqDiff, Nat.reduceBEq, Int.reduceToNat, Int.reduceLT, Int.reduceLE, Int.reduceEq, Int.reduceNe, Int.reduceAdd, Int.reduceSub, Int.reduceMul, Int.reduceNeg, ↓reduceIte, reduceCtorEq, Try.ntmps68, Try.results68, e1, e2, e3, hne, hw, hw2, f1, f2, f3, f4, Int.toNat_natCast, List.length_map]
    intro b
    rfl
  · have f1 : decide (((m + 1 : Nat) : Int) > (fates.length : Int)) = true := by simp; omega
    have f4 : fateL fates m = 1 := by simp [fateL, List.getD_eq_getElem?_getD, List.getElem?_eq_none (Nat.le_of_not_lt hc)]
    simp only [go_sem, Nat.reduceAdd, Nat.reduceSub, Nat.reduceMul, Nat.reduceLT, Nat.reduceLeDiff, Nat.reduceEqDiff, Nat.reduceBEq, Int.reduceToNat, Int.reduceLT, Int.reduceLE, Int.reduceEq, Int.reduceNe, Int.reduceAdd, Int.reduceSub, Int.reduceMul, Int.reduceNeg, ↓reduceIte, reduceCtorEq, Try.ntmps68, Try.results68, e1, e2, e3, hne, hw, hw2, f1, List.length_map]
    exact ⟨f4.symm, fun b => rfl⟩
end Go.Proofs.Ytpnhnobnjcknjaa.Pe
