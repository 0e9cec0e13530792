import Derived.Test.YtcdmhigmgpflbaaDT1
namespace Go.Proofs.Ytcdmhigmgpflbaa.Pe
open Go.Pe Go.RowKit
set_option maxRecDepth 20000
set_option maxHeartbeats 4000000
set_option linter.unusedSimpArgs false
set_option linter.unusedVariables false

/-- May a trouble be so? -/
def Trb.okR (t : Trb) : Bool := !decide (t.id < 0) && !decide (t.id > 65535) && !decide (t.st < 0) && !decide (t.st > 15) && !(hasV t.st 1 && !hasV t.st 2) && !decide (t.sc < -4) && !decide (t.sc > 4) && !decide (t.ca < 0) && !decide (t.ca > 2) && !(decide (t.ca > 0) && !hasV t.st 4)
def ordR (p : Option Int) (id : Int) : Bool := match p with | none => true | some q => !decide (id ≤ q)
def okFrom : Option Int → List Trb → Bool
  | _,[] => true
  | p,t :: r => t.okR && ordR p t.id && okFrom (some t.id) r
def rightL (l : List Trb) : Bool := !decide (l.length > 16) && okFrom none l
end Go.Proofs.Ytcdmhigmgpflbaa.Pe

