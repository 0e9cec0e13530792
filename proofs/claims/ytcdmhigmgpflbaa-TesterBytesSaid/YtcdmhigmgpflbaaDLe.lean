import Derived.Test.YtcdmhigmgpflbaaDLa
namespace Go.Proofs.Ytcdmhigmgpflbaa.Pe
open Go.Pe Go.RowKit
set_option maxRecDepth 20000
set_option maxHeartbeats 4000000
set_option linter.unusedSimpArgs false
set_option linter.unusedVariables false
theorem idV_idB {id : Int} (h : 0 ≤ id ∧ id ≤ 65535) : idV (u8of (id.fdiv (2 ^ min 8 64))) (u8of id) = id := by
  unfold idV
  rw [u8of_val,u8of_val,show id.fdiv (2 ^ min 8 64) = id / 256 by show id.fdiv 256 = _; rw [Int.fdiv_eq_ediv_of_nonneg _ (by decide)]]
  omega
end Go.Proofs.Ytcdmhigmgpflbaa.Pe

