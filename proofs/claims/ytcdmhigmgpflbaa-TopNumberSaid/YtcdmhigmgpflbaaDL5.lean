import Derived.Test.YtcdmhigmgpflbaaDL2
namespace Go.Proofs.Ytcdmhigmgpflbaa.Pe
open Go.Pe Go.RowKit
set_option maxRecDepth 20000
set_option maxHeartbeats 4000000
set_option linter.unusedSimpArgs false
set_option linter.unusedVariables false
/-- The server behind so many ticks,in one step. -/
def wrN (w n : Int) : Int := if w ≤ 2 then w else if w - n ≤ 2 then 0 else w - n
def tkN (n : Nat) (s : Srv) : Srv :=
  if 1 ≤ n ∧ s.quiet + n > 50 then { s with ses := 1,op := false,seed := -1,quiet := min (s.quiet + n) 51,wrong := wrN s.wrong n }
  else { s with quiet := min (s.quiet + n) 51,wrong := wrN s.wrong n }
end Go.Proofs.Ytcdmhigmgpflbaa.Pe


namespace Go.Proofs.Ytcdmhigmgpflbaa.Pe
open Go.Pe Go.RowKit
set_option maxRecDepth 20000
set_option maxHeartbeats 4000000
set_option linter.unusedSimpArgs false
set_option linter.unusedVariables false
end Go.Proofs.Ytcdmhigmgpflbaa.Pe

