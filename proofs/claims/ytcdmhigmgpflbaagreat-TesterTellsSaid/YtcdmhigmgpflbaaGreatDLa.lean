import Derived.Test.YtcdmhigmgpflbaaGreatDL8
set_option maxRecDepth 20000
set_option maxHeartbeats 4000000
set_option linter.unusedSimpArgs false
set_option linter.unusedVariables false
namespace Go.Proofs.YtcdmhigmgpflbaaGreat.Pe
open Go.Pe Go.RowKit
structure GuS (i : Nat) (s : Srv) : Prop where
  r : RightS s
  ses : s.ses = 2
  op : s.op = false
  w : s.wrong = if i < 3 then (i : Int) else 12
  q : i = 3 → s.quiet = 0
end Go.Proofs.YtcdmhigmgpflbaaGreat.Pe
