import Derived.Test.YtcdmhigmgpflbaaDL1
import Derived.Test.YtcdmhigmgpflbaaPeR
import Derived.KernelRfl
namespace Go.Proofs.Ytcdmhigmgpflbaa.Pe
open Go.Pe Go.RowKit
set_option linter.unusedVariables false
set_option maxRecDepth 20000
theorem shape3 {m : Nat} {r : List PV} (h : Shape Try.prog (m + 1) 3 r) : ∃ n : Int, r = [PI n] := by
  rw [Shape, Try.underlying3] at h
  exact by obtain ⟨n, rfl, _⟩ := h; exact ⟨n, rfl⟩
end Go.Proofs.Ytcdmhigmgpflbaa.Pe

