import Derived.Test.YtcdmhigmgpflbaaTS4
import Derived.Test.YtcdmhigmgpflbaaDL5
namespace Go.Proofs.Ytcdmhigmgpflbaa.Pe
open Go.Pe Go.RowKit
set_option maxRecDepth 20000
set_option maxHeartbeats 4000000
set_option linter.unusedSimpArgs false
set_option linter.unusedVariables false
theorem talk_at {s : Srv} {q : List UInt8} {f g : List Int} {r : TalkR} (h : talkV s q f g = r) (hs : RightS s) : PureCalls Try.prog 45 [s.pv,bytesPV q,intsPV f,intsPV g] r.pv := h ▸ talk_calls s q f g hs.fits
end Go.Proofs.Ytcdmhigmgpflbaa.Pe


namespace Go.Proofs.Ytcdmhigmgpflbaa.Pe
open Go.Pe Go.RowKit
set_option maxRecDepth 20000
set_option maxHeartbeats 4000000
set_option linter.unusedSimpArgs false
set_option linter.unusedVariables false
end Go.Proofs.Ytcdmhigmgpflbaa.Pe

