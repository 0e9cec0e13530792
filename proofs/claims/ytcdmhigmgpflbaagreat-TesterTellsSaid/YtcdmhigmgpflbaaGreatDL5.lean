import Derived.Test.YtcdmhigmgpflbaaGreatDL2
set_option maxRecDepth 20000
set_option maxHeartbeats 4000000
set_option linter.unusedSimpArgs false
set_option linter.unusedVariables false
namespace Go.Proofs.YtcdmhigmgpflbaaGreat.Pe
open Go.Pe Go.RowKit
end Go.Proofs.YtcdmhigmgpflbaaGreat.Pe
namespace Go.Proofs.YtcdmhigmgpflbaaGreat.Pe
open Go.Pe Go.RowKit
end Go.Proofs.YtcdmhigmgpflbaaGreat.Pe
