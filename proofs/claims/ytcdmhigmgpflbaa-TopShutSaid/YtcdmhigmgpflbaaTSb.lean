import Derived.Test.YtcdmhigmgpflbaaTS8
namespace Go.Proofs.Ytcdmhigmgpflbaa.Pe
open Go.Pe Go.RowKit
set_option maxRecDepth 20000
set_option maxHeartbeats 4000000
set_option linter.unusedSimpArgs false
set_option linter.unusedVariables false
/-! ### talks over a way that loses nothing -/
/-- A fresh server with numbers of 32 bits. -/
def freshS (S D : Int) (l : List Itm) : Srv := ⟨1,false,-1,0,0,D,S,l,[]⟩
theorem lowV_u32 (x : UInt32) : lowV (x.toNat : Int) = (x.toNat : Int) := by rw [lowV_eq]; have := x.toNat_lt; omega
theorem newSrv_u32 (x y : UInt32) (l : List Itm) : newSrv (x.toNat : Int) (y.toNat : Int) l = freshS x.toNat y.toNat l := by unfold newSrv freshS; rw [lowV_u32,lowV_u32]
theorem u32_wide (x : UInt32) : 0 ≤ (x.toNat : Int) ∧ (x.toNat : Int) ≤ 4294967295 := by have := x.toNat_lt; omega
theorem wr32 (x : UInt32) : IntKind.wrap .i64 (x.toNat : Int) = (x.toNat : Int) := by have := x.toNat_lt; rw [wrapI64_eq]; omega
end Go.Proofs.Ytcdmhigmgpflbaa.Pe

