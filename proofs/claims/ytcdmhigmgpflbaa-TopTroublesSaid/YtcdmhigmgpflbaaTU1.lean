import Derived.Test.YtcdmhigmgpflbaaTSe
namespace Go.Proofs.Ytcdmhigmgpflbaa.Pe
open Go.Pe Go.RowKit
set_option maxRecDepth 20000
set_option maxHeartbeats 4000000
set_option linter.unusedSimpArgs false
set_option linter.unusedVariables false
/-- Fates there and back of a try. -/
structure Way22 where
  there : List Int
  back : List Int
def Way22.row (w : Way22) : List PV := [intsPV w.there,intsPV w.back]
/-! ### too many ways,or fates -/
/-! ### a question asked again -/
end Go.Proofs.Ytcdmhigmgpflbaa.Pe

