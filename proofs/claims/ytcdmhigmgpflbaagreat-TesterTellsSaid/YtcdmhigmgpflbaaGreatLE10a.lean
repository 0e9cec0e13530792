import Derived.Test.YtcdmhigmgpflbaaGreatLE2
set_option maxRecDepth 20000
set_option maxHeartbeats 4000000
set_option linter.unusedSimpArgs false
set_option linter.unusedVariables false
namespace Go.Proofs.YtcdmhigmgpflbaaGreat.Pe.Lk
open Go.Pe Go.RowKit
end Go.Proofs.YtcdmhigmgpflbaaGreat.Pe.Lk
namespace Go.Proofs.YtcdmhigmgpflbaaGreat.Pe.Lk
open Go.Pe Go.RowKit
theorem run_go {fates : List Int} {f n : Nat} {L : Lnk} (h : doneL L = false) : runL fates (f + 1) n L = runL fates f (n + 1) (tickL fates L) := by rw [runL,h]; simp
theorem run_done {fates : List Int} {f n : Nat} {L : Lnk} (h : doneL L = true) : runL fates (f + 1) n L = (L,n) := by rw [runL,h]; simp
end Go.Proofs.YtcdmhigmgpflbaaGreat.Pe.Lk
namespace Go.Proofs.YtcdmhigmgpflbaaGreat.Pe.Lk
open Go.Pe Go.RowKit
end Go.Proofs.YtcdmhigmgpflbaaGreat.Pe.Lk
namespace Go.Proofs.YtcdmhigmgpflbaaGreat.Pe.Lk
open Go.Pe Go.RowKit
end Go.Proofs.YtcdmhigmgpflbaaGreat.Pe.Lk
namespace Go.Proofs.YtcdmhigmgpflbaaGreat.Pe.Lk
open Go.Pe Go.RowKit
end Go.Proofs.YtcdmhigmgpflbaaGreat.Pe.Lk
