import Derived.Test.YtcdmhigmgpflbaaTU2
namespace Go.Proofs.Ytcdmhigmgpflbaa.Pe
open Go.Pe Go.RowKit
set_option maxRecDepth 20000
set_option maxHeartbeats 4000000
set_option linter.unusedSimpArgs false
set_option linter.unusedVariables false
theorem great22_at {l : List Way22} {b : Bool} (hl : l.length ≤ 9223372036854775807) (h : great22V l = b) : PureCalls Try.prog 67 [waysPV l] (PB b) := h ▸ great22_calls l hl
/-- Shut,and asked nothing wrong. -/
structure InsA (S : Int) (s : Srv) : Prop where
  r : RightS s
  op : s.op = false
  w : s.wrong = 0
  sec : s.sec = S
/-- A seed was given; or it is open. -/
structure InsC (S n d : Int) (s : Srv) : Prop where
  r : RightS s
  ses : s.ses = n
  w : s.wrong = 0
  sec : s.sec = S
  seed : s.seed = d ∨ (s.op = true ∧ s.seed = -1)
end Go.Proofs.Ytcdmhigmgpflbaa.Pe

