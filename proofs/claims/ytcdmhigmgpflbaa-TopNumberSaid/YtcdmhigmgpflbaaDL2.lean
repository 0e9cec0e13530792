import Derived.Test.YtcdmhigmgpflbaaDI20
namespace Go.Proofs.Ytcdmhigmgpflbaa.Pe
open Go.Pe Go.RowKit
set_option maxRecDepth 20000
set_option maxHeartbeats 4000000
set_option linter.unusedSimpArgs false
set_option linter.unusedVariables false
/-- A question,or ticks. -/
structure Op22 where
  n : Int
  q : List UInt8
  is : Bool
def Op22.row (o : Op22) : List PV := [PI o.n,bytesPV o.q,PB o.is]
end Go.Proofs.Ytcdmhigmgpflbaa.Pe


namespace Go.Proofs.Ytcdmhigmgpflbaa.Pe
open Go.Pe Go.RowKit
set_option maxRecDepth 20000
set_option maxHeartbeats 4000000
set_option linter.unusedSimpArgs false
set_option linter.unusedVariables false

end Go.Proofs.Ytcdmhigmgpflbaa.Pe


namespace Go.Proofs.Ytcdmhigmgpflbaa.Pe
open Go.Pe Go.RowKit
set_option maxRecDepth 20000
set_option maxHeartbeats 4000000
set_option linter.unusedSimpArgs false
set_option linter.unusedVariables false

/-- Whether a question is one of those that are handed on. -/
def isH (c : UInt8) : Prop := c = 0x34 ∨ c = 0x36 ∨ c = 0x37
instance (c : UInt8) : Decidable (isH c) := by unfold isH; infer_instance
end Go.Proofs.Ytcdmhigmgpflbaa.Pe

