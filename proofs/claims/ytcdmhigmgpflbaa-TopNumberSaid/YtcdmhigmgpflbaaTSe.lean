import Derived.Test.YtcdmhigmgpflbaaTSb
import Derived.Test.YtcdmhigmgpflbaaDLe
namespace Go.Proofs.Ytcdmhigmgpflbaa.Pe
open Go.Pe Go.RowKit
set_option maxRecDepth 20000
set_option maxHeartbeats 4000000
set_option linter.unusedSimpArgs false
set_option linter.unusedVariables false
/-- A server with one item,in the workshop. -/
structure OneS (v : Srv) (id : Int) (was : List UInt8) : Prop where
  r : RightS v
  ses : v.ses ≠ 1
  q : v.quiet = 0
  its : v.items = [⟨id,true,was⟩]
end Go.Proofs.Ytcdmhigmgpflbaa.Pe

