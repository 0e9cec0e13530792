import Derived.Test.YtcdmhigmgpflbaaTS8
namespace Go.Proofs.Ytcdmhigmgpflbaa.Pe
open Go.Pe Go.RowKit
set_option maxRecDepth 20000
set_option maxHeartbeats 4000000
set_option linter.unusedSimpArgs false
set_option linter.unusedVariables false
/-! ### talks over a way that loses nothing -/
/-- A fresh server with numbers of 32 bits. -/
def freshS (S D : Int) (l : List Itm) : Srv := ⟨1,false,-1,0,0,D,S,l,[]⟩
end Go.Proofs.Ytcdmhigmgpflbaa.Pe

