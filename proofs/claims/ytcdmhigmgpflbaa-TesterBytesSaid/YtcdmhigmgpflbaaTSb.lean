import Derived.Test.YtcdmhigmgpflbaaTS8
namespace Go.Proofs.Ytcdmhigmgpflbaa.Pe
open Go.Pe Go.RowKit
set_option maxRecDepth 20000
set_option maxHeartbeats 4000000
set_option linter.unusedSimpArgs false
set_option linter.unusedVariables false
theorem numB_four {n : Int} (h : 0 ≤ n ∧ n ≤ 4294967295) : ((numB (fourV n) : Nat) : Int) = n := by
  have e1 := u8of_val (n.fdiv (2 ^ min 24 64))
  have e2 := u8of_val (n.fdiv (2 ^ min 16 64))
  have e3 := u8of_val (n.fdiv (2 ^ min 8 64))
  have e4 := u8of_val n
  have q1 : n.fdiv (2 ^ min 24 64) = n / 16777216 := by show n.fdiv 16777216 = _; rw [Int.fdiv_eq_ediv_of_nonneg _ (by decide)]
  have q2 : n.fdiv (2 ^ min 16 64) = n / 65536 := by show n.fdiv 65536 = _; rw [Int.fdiv_eq_ediv_of_nonneg _ (by decide)]
  have q3 : n.fdiv (2 ^ min 8 64) = n / 256 := by show n.fdiv 256 = _; rw [Int.fdiv_eq_ediv_of_nonneg _ (by decide)]
  unfold fourV numB
  rw [q1] at e1
  rw [q2] at e2
  rw [q3] at e3
  rw [q1,q2,q3]
  simp only [List.foldl_cons,List.foldl_nil]
  omega
/-! ### talks over a way that loses nothing -/
theorem u32_wide (x : UInt32) : 0 ≤ (x.toNat : Int) ∧ (x.toNat : Int) ≤ 4294967295 := by have := x.toNat_lt; omega
theorem wr32 (x : UInt32) : IntKind.wrap .i64 (x.toNat : Int) = (x.toNat : Int) := by have := x.toNat_lt; rw [wrapI64_eq]; omega
theorem wr16 (x : UInt16) : IntKind.wrap .i64 (x.toNat : Int) = (x.toNat : Int) := by have := x.toNat_lt; rw [wrapI64_eq]; omega
end Go.Proofs.Ytcdmhigmgpflbaa.Pe

