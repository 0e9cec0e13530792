import Derived.Test.YtcdmhigmgpflbaaDI14
namespace Go.Proofs.Ytcdmhigmgpflbaa.Pe
open Go.Pe Go.RowKit
set_option maxRecDepth 20000
set_option maxHeartbeats 4000000
set_option linter.unusedSimpArgs false
set_option linter.unusedVariables false

end Go.Proofs.Ytcdmhigmgpflbaa.Pe


namespace Go.Proofs.Ytcdmhigmgpflbaa.Pe
open Go.Pe Go.RowKit
set_option maxRecDepth 20000
set_option maxHeartbeats 4000000
set_option linter.unusedSimpArgs false
set_option linter.unusedVariables false

def wit (n lo hi : Int) : Bool := decide (lo ≤ n) && decide (n ≤ hi)
def okIt (x : Itm) : Bool := wit x.id 0 65535 && wit x.data.length 1 64
def ordI (p : Option Int) (n : Int) : Bool := match p with
  | none => true
  | some q => !decide (q ≥ n)
def okIts : Option Int → List Itm → Bool
  | _,[] => true
  | p,x :: l => okIt x && (ordI p x.id && okIts (some x.id) l)
def rightH (s : Srv) : Bool := wit s.ses 1 3 && (wit s.seed (-1) 4294967295 && (wit s.wrong 0 12 && (wit s.quiet 0 51 && (wit s.draw 0 4294967295 && (wit s.sec 0 4294967295 && (decide ((s.items.length : Int) ≤ 16) && rightL s.dtc))))))
/-- May a server be so? -/
def rightS (s : Srv) : Bool := okIts none s.items && rightH s
end Go.Proofs.Ytcdmhigmgpflbaa.Pe


namespace Go.Proofs.Ytcdmhigmgpflbaa.Pe
open Go.Pe Go.RowKit
set_option maxRecDepth 20000
set_option maxHeartbeats 4000000
set_option linter.unusedSimpArgs false
set_option linter.unusedVariables false

end Go.Proofs.Ytcdmhigmgpflbaa.Pe

